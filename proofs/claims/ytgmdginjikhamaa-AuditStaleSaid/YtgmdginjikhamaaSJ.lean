/- What ref33.stale walks by. No conditions beside those in its theorems. -/
import Derived.Test.YtgmdginjikhamaaSG
import Derived.Test.YtgmdginjikhamaaSI
import Derived.Test.YtgmdginjikhamaaSX5
set_option linter.unusedSimpArgs false
namespace Go.Proofs.AO
open Go.RowKit Go.Maps Go.Shelf Go.Sort
set_option linter.unusedVariables false
set_option linter.unusedSimpArgs false
set_option maxRecDepth 100000
set_option maxHeartbeats 2000000
/-- what a walk's result is, as a value -/
def wv (r : Option Nat) : Value := match r with | some x => dE x | none => En false false false false 0
theorem walk_g (M B n cp : Nat) (wd : Nat → Nat) (root page : Int) (hr : WF root) (hp : WF page) (W : World) (h : Me W M B n cp wd) :
    Calls Try.prog 41 #[.pointer (some ⟨M, 0, none⟩), .int .i64 root, .int .i64 page] W fun e w' => (∃ g : Int, e = .returned (.tuple #[wv (wk n wd root page), .int .i64 g]) ∧ (g = 0 ↔ (wk n wd root page).isSome = true)) ∧ Up W w' := by
  refine (walk_f M B n cp wd root page hr hp W h).mono ?_
  rintro e w' ⟨v, g, rfl, hu, ⟨x, h1, h2, h3⟩ | ⟨h1, h2, h3⟩⟩
  · exact ⟨⟨g, by rw [h1, h3]; rfl, by rw [h1]; simp [h2]⟩, hu⟩
  · exact ⟨⟨g, by rw [h1, h3]; rfl, by rw [h1]; simp [h2]⟩, hu⟩
theorem wv_agg (r : Option Nat) : ∃ v0 v1 v2 v3 v4, wv r = .agg #[v0, v1, v2, v3, v4] ∧ (#[v0, v1, v2, v3, v4] : Array Value).all (·.oneCell') = true := by
  unfold wv
  cases r with
  | some x => exact dE_agg x
  | none => exact ⟨_, _, _, _, _, rfl, by simp [Value.oneCell']⟩
/-- the boxes of the view and of the translation -/
structure Sw (W : World) (A X : Array Value) (w : World) : Prop where
  up : Up W w
  box : w.heap[W.heap.size]? = some (.cells A 32 (0, 0))
  bxx : w.heap[W.heap.size + 1]? = some (.cells X 57 (0, 0))
theorem Sw.to {W w w' : World} {A X : Array Value} (h : Sw W A X w) (u : Up w w') : Sw W A X w' := ⟨h.up.trans u, u.heap h.box, u.heap h.bxx⟩
theorem Sw.cell {W w : World} {A X : Array Value} (h : Sw W A X w) (j : Nat) : w.cell? ⟨W.heap.size, j, none⟩ = A[j]? := cell_of_row _ _ _ _ _ _ h.box
theorem Sw.cellx {W w : World} {A X : Array Value} (h : Sw W A X w) (j : Nat) : w.cell? ⟨W.heap.size + 1, j, none⟩ = X[j]? := cell_of_row _ _ _ _ _ _ h.bxx
/-- what the operations of stale's region 12 yield -/
def Fs (W : World) (M : Nat) (ao : Option Addr) (no co b off m : Nat) (z : Int) (page : Int) (r : Option Nat) (i : Nat) (v : Value) (w : World) : Prop :=
  match i with
  | 0 => v = .pointer (some ⟨M, 0, none⟩)
  | 1 => v = .pointer (some ⟨W.heap.size, 0, none⟩)
  | 2 => v = .slice ao no co
  | 3 => v = .int .i64 m
  | 4 => v = .pointer (some ⟨b, off + m * 9, none⟩)
  | 5 => v = .pointer (some ⟨b, off + m * 9 + 3, none⟩)
  | 6 => v = .int .i64 z
  | 7 => v = .pointer (some ⟨W.heap.size + 1, 1, none⟩)
  | 8 => v = .int .i64 page
  | 9 | 10 => ∃ g : Int, v = .tuple #[wv r, .int .i64 g] ∧ (g = 0 ↔ r.isSome = true)
  | 11 => v = wv r
  | 12 | 15 => ∃ g : Int, v = .int .i64 g ∧ (g = 0 ↔ r.isSome = true)
  | 13 => ∃ b, v = .pointer (some ⟨b, 0, none⟩) ∧ W.heap.size + 2 ≤ b ∧ b < w.heap.size ∧ w.there b 0 5 ∧ ∀ j, w.frozen? ⟨b, j, none⟩ = false
  | _ => True
def Ns (W : World) (r : Option Nat) (i : Nat) (a : Act) (w : World) : Prop :=
  ∃ b v0 v1 v2 v3 v4, a.eval (.tmp 10) = .pointer (some ⟨b, 0, none⟩) ∧ wv r = .agg #[v0, v1, v2, v3, v4] ∧ Bx5 W w b v0 v1 v2 v3 v4
theorem Ns.keep {W : World} {r : Option Nat} {j : Nat} {a : Act} {w : World} (h : Ns W r j a w) {d : Nat} (hd : d ≠ 10) (v : Value) : Ns W r j (a.put (some d) v) w := by
  obtain ⟨b, v0, v1, v2, v3, v4, h1, h2, h3⟩ := h
  refine ⟨b, v0, v1, v2, v3, v4, ?_, h2, h3⟩
  rw [eval_put_ne]
  · exact h1
  · intro e he hed
    cases he
    exact hd hed
theorem Fs.up {W : World} {M : Nat} {ao : Option Addr} {no co b off m : Nat} {z page : Int} {r : Option Nat} {j : Nat} {v : Value} {w w' : World} (h : Fs W M ao no co b off m z page r j v w) (u : Up w w') : Fs W M ao no co b off m z page r j v w' := by
  unfold Fs at h ⊢
  split at h
  all_goals try exact h
  obtain ⟨b, h1, h2, h3, h4, h5⟩ := h
  exact ⟨b, h1, h2, Nat.lt_of_lt_of_le h3 u.size, there_up u h3 h4, fun j => (u.fz _ h3).trans (h5 j)⟩
theorem Fs.set {W : World} {M : Nat} {ao : Option Addr} {no co b off m : Nat} {z page : Int} {r : Option Nat} {j : Nat} {v : Value} {w : World} (h : Fs W M ao no co b off m z page r j v w) (g o : Nat) (vs : List Value) : Fs W M ao no co b off m z page r j v (w.setCells g o vs) := by
  unfold Fs at h ⊢
  split at h
  all_goals try exact h
  obtain ⟨b, h1, h2, h3, h4, h5⟩ := h
  exact ⟨b, h1, h2, by rw [setCells_size]; exact h3, World.there_setCells h4 _ _ _, fun j => (World.frozen?_setCells ..).trans (h5 j)⟩
theorem act94 (a : Act) (h : a.tmps.size = 94) (hd : a.defers = []) : ∃ u : Nat → Value, (∀ i, a.eval (.tmp i) = u i) ∧ a = { tmps := #[u 0, u 1, u 2, u 3, u 4, u 5, u 6, u 7, u 8, u 9, u 10, u 11, u 12, u 13, u 14, u 15, u 16, u 17, u 18, u 19, u 20, u 21, u 22, u 23, u 24, u 25, u 26, u 27, u 28, u 29, u 30, u 31, u 32, u 33, u 34, u 35, u 36, u 37, u 38, u 39, u 40, u 41, u 42, u 43, u 44, u 45, u 46, u 47, u 48, u 49, u 50, u 51, u 52, u 53, u 54, u 55, u 56, u 57, u 58, u 59, u 60, u 61, u 62, u 63, u 64, u 65, u 66, u 67, u 68, u 69, u 70, u 71, u 72, u 73, u 74, u 75, u 76, u 77, u 78, u 79, u 80, u 81, u 82, u 83, u 84, u 85, u 86, u 87, u 88, u 89, u 90, u 91, u 92, u 93], defers := [] } := by
  refine ⟨fun i => a.eval (.tmp i), fun _ => rfl, ?_⟩
  obtain ⟨ts, ds⟩ := a
  simp only at h hd
  subst hd
  congr 1
  refine Array.ext_getElem? fun i => ?_
  match i with
  | 0 => simp [Act.eval, show 0 < ts.size by omega]
  | 1 => simp [Act.eval, show 1 < ts.size by omega]
  | 2 => simp [Act.eval, show 2 < ts.size by omega]
  | 3 => simp [Act.eval, show 3 < ts.size by omega]
  | 4 => simp [Act.eval, show 4 < ts.size by omega]
  | 5 => simp [Act.eval, show 5 < ts.size by omega]
  | 6 => simp [Act.eval, show 6 < ts.size by omega]
  | 7 => simp [Act.eval, show 7 < ts.size by omega]
  | 8 => simp [Act.eval, show 8 < ts.size by omega]
  | 9 => simp [Act.eval, show 9 < ts.size by omega]
  | 10 => simp [Act.eval, show 10 < ts.size by omega]
  | 11 => simp [Act.eval, show 11 < ts.size by omega]
  | 12 => simp [Act.eval, show 12 < ts.size by omega]
  | 13 => simp [Act.eval, show 13 < ts.size by omega]
  | 14 => simp [Act.eval, show 14 < ts.size by omega]
  | 15 => simp [Act.eval, show 15 < ts.size by omega]
  | 16 => simp [Act.eval, show 16 < ts.size by omega]
  | 17 => simp [Act.eval, show 17 < ts.size by omega]
  | 18 => simp [Act.eval, show 18 < ts.size by omega]
  | 19 => simp [Act.eval, show 19 < ts.size by omega]
  | 20 => simp [Act.eval, show 20 < ts.size by omega]
  | 21 => simp [Act.eval, show 21 < ts.size by omega]
  | 22 => simp [Act.eval, show 22 < ts.size by omega]
  | 23 => simp [Act.eval, show 23 < ts.size by omega]
  | 24 => simp [Act.eval, show 24 < ts.size by omega]
  | 25 => simp [Act.eval, show 25 < ts.size by omega]
  | 26 => simp [Act.eval, show 26 < ts.size by omega]
  | 27 => simp [Act.eval, show 27 < ts.size by omega]
  | 28 => simp [Act.eval, show 28 < ts.size by omega]
  | 29 => simp [Act.eval, show 29 < ts.size by omega]
  | 30 => simp [Act.eval, show 30 < ts.size by omega]
  | 31 => simp [Act.eval, show 31 < ts.size by omega]
  | 32 => simp [Act.eval, show 32 < ts.size by omega]
  | 33 => simp [Act.eval, show 33 < ts.size by omega]
  | 34 => simp [Act.eval, show 34 < ts.size by omega]
  | 35 => simp [Act.eval, show 35 < ts.size by omega]
  | 36 => simp [Act.eval, show 36 < ts.size by omega]
  | 37 => simp [Act.eval, show 37 < ts.size by omega]
  | 38 => simp [Act.eval, show 38 < ts.size by omega]
  | 39 => simp [Act.eval, show 39 < ts.size by omega]
  | 40 => simp [Act.eval, show 40 < ts.size by omega]
  | 41 => simp [Act.eval, show 41 < ts.size by omega]
  | 42 => simp [Act.eval, show 42 < ts.size by omega]
  | 43 => simp [Act.eval, show 43 < ts.size by omega]
  | 44 => simp [Act.eval, show 44 < ts.size by omega]
  | 45 => simp [Act.eval, show 45 < ts.size by omega]
  | 46 => simp [Act.eval, show 46 < ts.size by omega]
  | 47 => simp [Act.eval, show 47 < ts.size by omega]
  | 48 => simp [Act.eval, show 48 < ts.size by omega]
  | 49 => simp [Act.eval, show 49 < ts.size by omega]
  | 50 => simp [Act.eval, show 50 < ts.size by omega]
  | 51 => simp [Act.eval, show 51 < ts.size by omega]
  | 52 => simp [Act.eval, show 52 < ts.size by omega]
  | 53 => simp [Act.eval, show 53 < ts.size by omega]
  | 54 => simp [Act.eval, show 54 < ts.size by omega]
  | 55 => simp [Act.eval, show 55 < ts.size by omega]
  | 56 => simp [Act.eval, show 56 < ts.size by omega]
  | 57 => simp [Act.eval, show 57 < ts.size by omega]
  | 58 => simp [Act.eval, show 58 < ts.size by omega]
  | 59 => simp [Act.eval, show 59 < ts.size by omega]
  | 60 => simp [Act.eval, show 60 < ts.size by omega]
  | 61 => simp [Act.eval, show 61 < ts.size by omega]
  | 62 => simp [Act.eval, show 62 < ts.size by omega]
  | 63 => simp [Act.eval, show 63 < ts.size by omega]
  | 64 => simp [Act.eval, show 64 < ts.size by omega]
  | 65 => simp [Act.eval, show 65 < ts.size by omega]
  | 66 => simp [Act.eval, show 66 < ts.size by omega]
  | 67 => simp [Act.eval, show 67 < ts.size by omega]
  | 68 => simp [Act.eval, show 68 < ts.size by omega]
  | 69 => simp [Act.eval, show 69 < ts.size by omega]
  | 70 => simp [Act.eval, show 70 < ts.size by omega]
  | 71 => simp [Act.eval, show 71 < ts.size by omega]
  | 72 => simp [Act.eval, show 72 < ts.size by omega]
  | 73 => simp [Act.eval, show 73 < ts.size by omega]
  | 74 => simp [Act.eval, show 74 < ts.size by omega]
  | 75 => simp [Act.eval, show 75 < ts.size by omega]
  | 76 => simp [Act.eval, show 76 < ts.size by omega]
  | 77 => simp [Act.eval, show 77 < ts.size by omega]
  | 78 => simp [Act.eval, show 78 < ts.size by omega]
  | 79 => simp [Act.eval, show 79 < ts.size by omega]
  | 80 => simp [Act.eval, show 80 < ts.size by omega]
  | 81 => simp [Act.eval, show 81 < ts.size by omega]
  | 82 => simp [Act.eval, show 82 < ts.size by omega]
  | 83 => simp [Act.eval, show 83 < ts.size by omega]
  | 84 => simp [Act.eval, show 84 < ts.size by omega]
  | 85 => simp [Act.eval, show 85 < ts.size by omega]
  | 86 => simp [Act.eval, show 86 < ts.size by omega]
  | 87 => simp [Act.eval, show 87 < ts.size by omega]
  | 88 => simp [Act.eval, show 88 < ts.size by omega]
  | 89 => simp [Act.eval, show 89 < ts.size by omega]
  | 90 => simp [Act.eval, show 90 < ts.size by omega]
  | 91 => simp [Act.eval, show 91 < ts.size by omega]
  | 92 => simp [Act.eval, show 92 < ts.size by omega]
  | 93 => simp [Act.eval, show 93 < ts.size by omega]
  | i + 94 => rw [Array.getElem?_eq_none (by omega), Array.getElem?_eq_none (by simp)]
end Go.Proofs.AO
