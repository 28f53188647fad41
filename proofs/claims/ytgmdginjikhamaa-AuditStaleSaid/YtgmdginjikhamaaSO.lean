/- What ref33.Stale walks by. No conditions beside those in its theorems. -/
import Derived.Test.YtgmdginjikhamaaSN
import Derived.Test.YtgmdginjikhamaaSX5
set_option linter.unusedSimpArgs false
namespace Go.Proofs.AO
open Go.RowKit Go.Maps Go.Shelf Go.Sort
set_option linter.unusedVariables false
set_option linter.unusedSimpArgs false
set_option maxRecDepth 100000
set_option maxHeartbeats 2000000
theorem new_g (L : Nat) (W : World) : Calls Try.prog 26 #[.int .i64 L] W fun e w' => ∃ (mp : Value) (g : Int), e = .returned (.tuple #[mp, .int .i64 g]) ∧ Up W w' ∧
    ((g = 0 ∧ 1 ≤ L ∧ L ≤ 64 ∧ mp = .pointer (some ⟨W.heap.size + 1, 0, none⟩) ∧ Mz W w' (W.heap.size + 1) W.heap.size L (fun _ => 0)) ∨ (g = 3 ∧ ¬ (1 ≤ L ∧ L ≤ 64))) := by
  by_cases h : 1 ≤ L ∧ L ≤ 64
  · refine (new_f L h.1 h.2 W).mono ?_
    rintro e w' ⟨rfl, hm⟩
    exact ⟨_, _, rfl, hm.up, .inl ⟨rfl, h.1, h.2, rfl, hm⟩⟩
  · refine (new_bad L (by omega) W).mono ?_
    rintro e w' ⟨rfl, rfl⟩
    exact ⟨_, _, rfl, Up.refl _, .inr ⟨rfl, h⟩⟩
theorem Mz.set {W w : World} {M B n : Nat} {wd : Nat → Nat} (h : Mz W w M B n wd) {t x : Nat} (ht : t < 8 * n) (hx : x < 2 ^ 64) : Mz W (w.setCell ⟨B, t, none⟩ (.int .u64 x)) M B n (fun s => if s = t then x else wd s) := by
  refine ⟨h.up.set1 h.gB _, h.gM, h.gB, h.ne, ⟨h.me.n64, ?_, fun j hj => ?_, fun j => ?_⟩, fun j => (frz_set _ _ _ _).trans (h.fz j)⟩
  · rw [World.cell?_setCell_other _ _ _ _ (fun e => h.ne (by cases e; rfl))]
    exact h.me.row
  · by_cases e : j = t
    · subst e
      rw [if_pos rfl]
      exact World.cell?_setCell_same _ _ _ (h.me.at_ j hj)
    · rw [if_neg e, World.cell?_setCell_other _ _ _ _ (addr_ne (by omega))]
      exact h.me.at_ j hj
  · show (if j = t then x else wd j) < 2 ^ 64
    split
    · exact hx
    · exact h.me.wf j
/-- the copy under way -/
structure Q9 (W1 : World) (mp : Value) (L : Nat) (ln : Nat → Nat) (xw : Nat → Nat → Nat) (b : Bool) (k : Nat) (w : World) : Prop where
  up : Up W1 w
  good : b = true → ∃ wd, 1 ≤ L ∧ L ≤ 64 ∧ mp = .pointer (some ⟨W1.heap.size + 1, 0, none⟩) ∧ Mz W1 w (W1.heap.size + 1) W1.heap.size L wd ∧ ∀ i, i < k → ln i = 8 ∧ ∀ j, j < 8 → wd (8 * i + j) = xw i j
  bad : b = false → whole L ln = false
/-- .. within a row -/
def Qi (W1 : World) (L : Nat) (xw : Nat → Nat → Nat) (k m : Nat) (w : World) : Prop :=
  ∃ wd, Mz W1 w (W1.heap.size + 1) W1.heap.size L wd ∧ (∀ i, i < k → ∀ j, j < 8 → wd (8 * i + j) = xw i j) ∧ ∀ j, j < m → wd (8 * k + j) = xw k j
theorem Qi.set {W1 : World} {L : Nat} {xw : Nat → Nat → Nat} {k m : Nat} {w : World} (h : Qi W1 L xw k m w) (hk : k < L) (hm : m < 8) (hx : ∀ i j, xw i j < 2 ^ 64) : Qi W1 L xw k (m + 1) (w.setCell ⟨W1.heap.size, 8 * k + m, none⟩ (.int .u64 (xw k m))) := by
  obtain ⟨wd, h1, h2, h3⟩ := h
  refine ⟨_, h1.set (by omega) (hx k m), fun i hi j hj => ?_, fun j hj => ?_⟩
  · rw [if_neg (by omega)]
    exact h2 i hi j hj
  · by_cases e : j = m
    · subst e
      rw [if_pos rfl]
    · rw [if_neg (by omega)]
      exact h3 j (by omega)
theorem Mz.drew {W w : World} {M B n : Nat} {wd : Nat → Nat} (h : Mz W w M B n wd) : Mz W w.drew M B n wd := ⟨h.up.trans (Up.drew w), h.gM, h.gB, h.ne, h.me.up (Up.drew w), h.fz⟩
theorem Qi.drew {W1 : World} {L : Nat} {xw : Nat → Nat → Nat} {k m : Nat} {w : World} (h : Qi W1 L xw k m w) : Qi W1 L xw k m w.drew := by
  obtain ⟨wd, h1, h2, h3⟩ := h
  exact ⟨wd, h1.drew, h2, h3⟩
/-- a row under way in a world that has grown -/
structure S10 (V w : World) (v : Value) (zs : List Int) : Prop where
  up : Up V w
  own : OI w V.heap.size v zs
theorem S10.to {V w w' : World} {v : Value} {zs : List Int} (t : S10 V w v zs) (h : Up w w') : S10 V w' v zs := ⟨t.up.trans h, t.own.up h⟩
theorem S10.ap {V w : World} {v : Value} {zs : List Int} {ops : Array Oper} {rest : List Oper} {o : Oper} {a : Act} {Q : Exit → Act → World → Prop} (t : S10 V w v zs) (hgd : o.guard = none) (s x : Operand) (ho : o.op = .call { callee := .builtin .append, args := #[s, x], argTypes := #[30, 30] }) {w2 : World} (f : Int) (hw : w2 = w.alloc (.cells #[.int .i64 f] 3)) (hm : zs.length ≤ 100000) (hs : a.eval s = v) {K : Nat} (hx : a.eval x = .slice (some ⟨K, 0, none⟩) 1 1) (hK : K = w.heap.size)
    (h : ∀ v' w', S10 V w' v' (zs ++ [f]) → wpList Try.prog ops Q rest (a.put o.dst v') w') : wpList Try.prog ops Q (o :: rest) a w2 := by
  refine arm_ai hgd s x ho t.own hm t.up.size f hw hs hx hK fun v' w' h1 h2 h3 => h v' w' ?_
  subst hw
  exact ⟨(t.up.trans (Up.push w (.cells #[.int .i64 f] 3))).grow h2 h3, h1⟩
/-- what the operations of ref33.Stale's region 15 yield -/
def F15 (ok : Bool) (A : Array Value) (M : Nat) (a : Option Addr) (n cc k tb off : Nat) (X : Array Value) (s : Bool) (i : Nat) (v : Value) (w : World) : Prop :=
  match i with
  | 0 => v = .bool ok
  | 1 | 2 => v = .bool (!ok)
  | 3 => ok = true → v = .agg A
  | 4 => ok = true → v = .pointer (some ⟨M, 0, none⟩)
  | 5 => ok = true → v = .slice a n cc
  | 6 => ok = true → v = .int .i64 k
  | 7 => ok = true → v = .pointer (some ⟨tb, off + k * 5, none⟩)
  | 8 => ok = true → v = .agg X
  | 9 => ok = true → v = .bool s
  | 10 => v = .bool (!ok || s)
  | _ => True
theorem act87 (a : Act) (h : a.tmps.size = 87) (hd : a.defers = []) : ∃ u : Nat → Value, (∀ i, a.eval (.tmp i) = u i) ∧ a = { tmps := #[u 0, u 1, u 2, u 3, u 4, u 5, u 6, u 7, u 8, u 9, u 10, u 11, u 12, u 13, u 14, u 15, u 16, u 17, u 18, u 19, u 20, u 21, u 22, u 23, u 24, u 25, u 26, u 27, u 28, u 29, u 30, u 31, u 32, u 33, u 34, u 35, u 36, u 37, u 38, u 39, u 40, u 41, u 42, u 43, u 44, u 45, u 46, u 47, u 48, u 49, u 50, u 51, u 52, u 53, u 54, u 55, u 56, u 57, u 58, u 59, u 60, u 61, u 62, u 63, u 64, u 65, u 66, u 67, u 68, u 69, u 70, u 71, u 72, u 73, u 74, u 75, u 76, u 77, u 78, u 79, u 80, u 81, u 82, u 83, u 84, u 85, u 86], defers := [] } := by
  refine ⟨fun i => a.eval (.tmp i), fun _ => rfl, ?_⟩
  obtain ⟨ts, ds⟩ := a
  simp only at h hd
  subst hd
  congr 1
  refine Array.ext_getElem? fun i => ?_
  match i with
  | 0 => simp [Act.eval, show 0 < ts.size by omega]
  | 1 => simp [Act.eval, show 1 < ts.size by omega]
  | 2 => simp [Act.eval, show 2 < ts.size by omega]
  | 3 => simp [Act.eval, show 3 < ts.size by omega]
  | 4 => simp [Act.eval, show 4 < ts.size by omega]
  | 5 => simp [Act.eval, show 5 < ts.size by omega]
  | 6 => simp [Act.eval, show 6 < ts.size by omega]
  | 7 => simp [Act.eval, show 7 < ts.size by omega]
  | 8 => simp [Act.eval, show 8 < ts.size by omega]
  | 9 => simp [Act.eval, show 9 < ts.size by omega]
  | 10 => simp [Act.eval, show 10 < ts.size by omega]
  | 11 => simp [Act.eval, show 11 < ts.size by omega]
  | 12 => simp [Act.eval, show 12 < ts.size by omega]
  | 13 => simp [Act.eval, show 13 < ts.size by omega]
  | 14 => simp [Act.eval, show 14 < ts.size by omega]
  | 15 => simp [Act.eval, show 15 < ts.size by omega]
  | 16 => simp [Act.eval, show 16 < ts.size by omega]
  | 17 => simp [Act.eval, show 17 < ts.size by omega]
  | 18 => simp [Act.eval, show 18 < ts.size by omega]
  | 19 => simp [Act.eval, show 19 < ts.size by omega]
  | 20 => simp [Act.eval, show 20 < ts.size by omega]
  | 21 => simp [Act.eval, show 21 < ts.size by omega]
  | 22 => simp [Act.eval, show 22 < ts.size by omega]
  | 23 => simp [Act.eval, show 23 < ts.size by omega]
  | 24 => simp [Act.eval, show 24 < ts.size by omega]
  | 25 => simp [Act.eval, show 25 < ts.size by omega]
  | 26 => simp [Act.eval, show 26 < ts.size by omega]
  | 27 => simp [Act.eval, show 27 < ts.size by omega]
  | 28 => simp [Act.eval, show 28 < ts.size by omega]
  | 29 => simp [Act.eval, show 29 < ts.size by omega]
  | 30 => simp [Act.eval, show 30 < ts.size by omega]
  | 31 => simp [Act.eval, show 31 < ts.size by omega]
  | 32 => simp [Act.eval, show 32 < ts.size by omega]
  | 33 => simp [Act.eval, show 33 < ts.size by omega]
  | 34 => simp [Act.eval, show 34 < ts.size by omega]
  | 35 => simp [Act.eval, show 35 < ts.size by omega]
  | 36 => simp [Act.eval, show 36 < ts.size by omega]
  | 37 => simp [Act.eval, show 37 < ts.size by omega]
  | 38 => simp [Act.eval, show 38 < ts.size by omega]
  | 39 => simp [Act.eval, show 39 < ts.size by omega]
  | 40 => simp [Act.eval, show 40 < ts.size by omega]
  | 41 => simp [Act.eval, show 41 < ts.size by omega]
  | 42 => simp [Act.eval, show 42 < ts.size by omega]
  | 43 => simp [Act.eval, show 43 < ts.size by omega]
  | 44 => simp [Act.eval, show 44 < ts.size by omega]
  | 45 => simp [Act.eval, show 45 < ts.size by omega]
  | 46 => simp [Act.eval, show 46 < ts.size by omega]
  | 47 => simp [Act.eval, show 47 < ts.size by omega]
  | 48 => simp [Act.eval, show 48 < ts.size by omega]
  | 49 => simp [Act.eval, show 49 < ts.size by omega]
  | 50 => simp [Act.eval, show 50 < ts.size by omega]
  | 51 => simp [Act.eval, show 51 < ts.size by omega]
  | 52 => simp [Act.eval, show 52 < ts.size by omega]
  | 53 => simp [Act.eval, show 53 < ts.size by omega]
  | 54 => simp [Act.eval, show 54 < ts.size by omega]
  | 55 => simp [Act.eval, show 55 < ts.size by omega]
  | 56 => simp [Act.eval, show 56 < ts.size by omega]
  | 57 => simp [Act.eval, show 57 < ts.size by omega]
  | 58 => simp [Act.eval, show 58 < ts.size by omega]
  | 59 => simp [Act.eval, show 59 < ts.size by omega]
  | 60 => simp [Act.eval, show 60 < ts.size by omega]
  | 61 => simp [Act.eval, show 61 < ts.size by omega]
  | 62 => simp [Act.eval, show 62 < ts.size by omega]
  | 63 => simp [Act.eval, show 63 < ts.size by omega]
  | 64 => simp [Act.eval, show 64 < ts.size by omega]
  | 65 => simp [Act.eval, show 65 < ts.size by omega]
  | 66 => simp [Act.eval, show 66 < ts.size by omega]
  | 67 => simp [Act.eval, show 67 < ts.size by omega]
  | 68 => simp [Act.eval, show 68 < ts.size by omega]
  | 69 => simp [Act.eval, show 69 < ts.size by omega]
  | 70 => simp [Act.eval, show 70 < ts.size by omega]
  | 71 => simp [Act.eval, show 71 < ts.size by omega]
  | 72 => simp [Act.eval, show 72 < ts.size by omega]
  | 73 => simp [Act.eval, show 73 < ts.size by omega]
  | 74 => simp [Act.eval, show 74 < ts.size by omega]
  | 75 => simp [Act.eval, show 75 < ts.size by omega]
  | 76 => simp [Act.eval, show 76 < ts.size by omega]
  | 77 => simp [Act.eval, show 77 < ts.size by omega]
  | 78 => simp [Act.eval, show 78 < ts.size by omega]
  | 79 => simp [Act.eval, show 79 < ts.size by omega]
  | 80 => simp [Act.eval, show 80 < ts.size by omega]
  | 81 => simp [Act.eval, show 81 < ts.size by omega]
  | 82 => simp [Act.eval, show 82 < ts.size by omega]
  | 83 => simp [Act.eval, show 83 < ts.size by omega]
  | 84 => simp [Act.eval, show 84 < ts.size by omega]
  | 85 => simp [Act.eval, show 85 < ts.size by omega]
  | 86 => simp [Act.eval, show 86 < ts.size by omega]
  | i + 87 => rw [Array.getElem?_eq_none (by omega), Array.getElem?_eq_none (by simp)]
end Go.Proofs.AO
