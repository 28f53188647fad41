/- Findings in a block, equality of findings, clear. No conditions beside those in its theorems. -/
import Derived.Test.YtgmdginjikhamaaAO17
set_option linter.unusedSimpArgs false
namespace Go.Proofs.AO
open Go.RowKit Go.Maps Go.Shelf Go.Lib Go.Sort
set_option linter.unusedVariables false
set_option maxRecDepth 100000
set_option maxHeartbeats 1000000
/-- strictly ahead -/
def L3 (x y : F3) : Prop := x.1 < y.1 ∨ x.1 = y.1 ∧ (x.2.1 < y.2.1 ∨ x.2.1 = y.2.1 ∧ x.2.2 < y.2.2)
/-- n findings in a block -/
structure Hc (w : World) (g : Nat) (D : Nat → F3) (n : Nat) : Prop where
  c0 : ∀ j, j < n → w.cell? ⟨g, j * 3, none⟩ = some (.int .i64 (D j).1)
  c1 : ∀ j, j < n → w.cell? ⟨g, j * 3 + 1, none⟩ = some (.int .i64 (D j).2.1)
  c2 : ∀ j, j < n → w.cell? ⟨g, j * 3 + 2, none⟩ = some (.int .i64 (D j).2.2)
theorem eq38 (a b c x y z : Int) (w : World) : (binOp .eql 38 (.agg #[.int .i64 a, .int .i64 b, .int .i64 c]) (.agg #[.int .i64 x, .int .i64 y, .int .i64 z])).run Try.prog w = .ok (.bool (decide (a = x ∧ b = y ∧ c = z))) w := by
  by_cases h1 : a = x
  · by_cases h2 : b = y
    · by_cases h3 : c = z
      · simp [go_sem, h1, h2, h3]
      · simp [go_sem, h1, h2, h3]
    · simp [go_sem, h1, h2]
  · simp [go_sem, h1]
theorem ne38 (a b c x y z : Int) (w : World) : (binOp .neq 38 (.agg #[.int .i64 a, .int .i64 b, .int .i64 c]) (.agg #[.int .i64 x, .int .i64 y, .int .i64 z])).run Try.prog w = .ok (.bool (!decide (a = x ∧ b = y ∧ c = z))) w := by
  by_cases h1 : a = x
  · by_cases h2 : b = y
    · by_cases h3 : c = z
      · simp [go_sem, h1, h2, h3]
      · simp [go_sem, h1, h2, h3]
    · simp [go_sem, h1, h2]
  · simp [go_sem, h1]
theorem ext3 {x y : F3} (h : x.1 = y.1 ∧ x.2.1 = y.2.1 ∧ x.2.2 = y.2.2) : x = y := Prod.ext h.1 (Prod.ext h.2.1 h.2.2)
theorem l3_of {x y : F3} (h : ¬ L3 y x) (hne : ¬ (y.1 = x.1 ∧ y.2.1 = x.2.1 ∧ y.2.2 = x.2.2)) : L3 x y := by
  unfold L3 at *; omega
theorem addr_ne {b i j : Nat} (h : i ≠ j) : (⟨b, i, none⟩ : Addr) ≠ ⟨b, j, none⟩ := fun e => h (congrArg Addr.off e)
theorem setCells_low (b : Nat) (j : Nat) : ∀ (vs : List Value) (o : Nat) (w : World), j < o → (w.setCells b o vs).cell? ⟨b, j, none⟩ = w.cell? ⟨b, j, none⟩
  | [], _, _, _ => rfl
  | v :: r, o, w, h => by
    rw [World.setCells, setCells_low b j r (o + 1) _ (by omega)]
    exact World.cell?_setCell_other _ _ _ _ (addr_ne (by omega))
theorem up_setCells {W : World} (b : Nat) (hb : W.heap.size ≤ b) : ∀ (vs : List Value) (o : Nat) (w : World), Up W w → Up W (w.setCells b o vs)
  | [], _, _, h => h
  | v :: r, o, w, h => by
    rw [World.setCells]
    refine up_setCells b hb r (o + 1) _ ⟨h.os, h.tape, h.output, ?_, fun k hk => ?_⟩
    · simp only [World.setCell, Array.size_modify]
      exact h.size
    · rw [Below.heap_setCell _ _ _ k (by show k ≠ b; omega)]
      exact h.block k hk
theorem clear3 (w : World) (b o n c : Nat) (hn : 0 < n) (hc : ∀ j, j < n * 3 → (w.cell? ⟨b, o + j, none⟩).isSome = true) (hf : ∀ j, j < n * 3 → w.frozen? ⟨b, o + j, none⟩ = false) :
    ∃ vs : List Value, ∀ ty, (Builtin.clear_ #[35] ty #[.slice (some ⟨b, o, none⟩) n c]).run Try.prog w = .ok (.tuple #[]) (w.setCells b o vs) := by
  have hz : ∀ w, (zeroValue 38).run Try.prog w = .ok (.agg #[.int .i64 0, .int .i64 0, .int .i64 0]) w := Try.zeroValue38
  refine ⟨(Builtin.zeroCells #[.int .i64 0, .int .i64 0, .int .i64 0] n).toList, fun ty => ?_⟩
  have hl : (Builtin.zeroCells #[Value.int .i64 0, .int .i64 0, .int .i64 0] n).toList.length = n * 3 := by rw [Array.length_toList, size_zeroCells]; rfl
  have hst := run_storeCells_cells (P := Try.prog) b o (Builtin.zeroCells #[Value.int .i64 0, .int .i64 0, .int .i64 0] n).toList 0 w (by rw [hl]; simpa using hc) (by rw [hl]; simpa using hf) (by
    intro v hv
    simp only [Builtin.zeroCells, Array.toList_map, List.mem_map] at hv
    obtain ⟨k, _, rfl⟩ := hv
    have h3 : k % 3 = 0 ∨ k % 3 = 1 ∨ k % 3 = 2 := by omega
    rcases h3 with h | h | h <;> simp [h, Value.oneCell'])
  simp only [Nat.add_zero] at hst
  obtain ⟨m, rfl⟩ : ∃ m, n = m + 1 := ⟨n - 1, by omega⟩
  simp [Builtin.clear_, run_underlying Try.underlying35, hz, Value.cells, hst]
/-- one finding is written -/
def wr3 (w : World) (g K : Nat) (x : F3) : World := ((w.setCell ⟨g, K * 3, none⟩ (.int .i64 x.1)).setCell ⟨g, K * 3 + 1, none⟩ (.int .i64 x.2.1)).setCell ⟨g, K * 3 + 2, none⟩ (.int .i64 x.2.2)
theorem isSome_set (w : World) (g i j : Nat) (v : Value) (h : (w.cell? ⟨g, j, none⟩).isSome = true) : ((w.setCell ⟨g, i, none⟩ v).cell? ⟨g, j, none⟩).isSome = true := by
  by_cases e : j = i
  · subst e; rw [World.cell?_setCell_same' _ _ _ h]; rfl
  · rw [World.cell?_setCell_other _ _ _ _ (addr_ne (by omega))]; exact h
theorem Hc.write {w : World} {g n K : Nat} {F : Nat → F3} (h : Hc w g F n) (hK : K < n) (x : F3) : Hc (wr3 w g K x) g (fun j => if j = K then x else F j) n := by
  have q0 : (w.cell? ⟨g, K * 3, none⟩).isSome = true := by rw [h.c0 K hK]; rfl
  have q1 : (w.cell? ⟨g, K * 3 + 1, none⟩).isSome = true := by rw [h.c1 K hK]; rfl
  have q2 : (w.cell? ⟨g, K * 3 + 2, none⟩).isSome = true := by rw [h.c2 K hK]; rfl
  have oth : ∀ j, j ≠ K * 3 → j ≠ K * 3 + 1 → j ≠ K * 3 + 2 → (wr3 w g K x).cell? ⟨g, j, none⟩ = w.cell? ⟨g, j, none⟩ := by
    intro j a b c
    unfold wr3
    rw [World.cell?_setCell_other _ _ _ _ (addr_ne (by omega)), World.cell?_setCell_other _ _ _ _ (addr_ne (by omega)), World.cell?_setCell_other _ _ _ _ (addr_ne (by omega))]
  constructor
  · intro j hj
    by_cases e : j = K
    · subst e
      simp only [if_true]
      unfold wr3
      rw [World.cell?_setCell_other _ _ _ _ (addr_ne (by omega)), World.cell?_setCell_other _ _ _ _ (addr_ne (by omega)), World.cell?_setCell_same' _ _ _ q0]
    · simp only [if_neg e]
      rw [oth _ (by omega) (by omega) (by omega)]; exact h.c0 j hj
  · intro j hj
    by_cases e : j = K
    · subst e
      simp only [if_true]
      unfold wr3
      rw [World.cell?_setCell_other _ _ _ _ (addr_ne (by omega)), World.cell?_setCell_same' _ _ _ (isSome_set _ _ _ _ _ q1)]
    · simp only [if_neg e]
      rw [oth _ (by omega) (by omega) (by omega)]; exact h.c1 j hj
  · intro j hj
    by_cases e : j = K
    · subst e
      simp only [if_true]
      unfold wr3
      rw [World.cell?_setCell_same' _ _ _ (isSome_set _ _ _ _ _ (isSome_set _ _ _ _ _ q2))]
    · simp only [if_neg e]
      rw [oth _ (by omega) (by omega) (by omega)]; exact h.c2 j hj
theorem up_write {W w : World} {g K : Nat} {x : F3} (h : Up W w) (hg : W.heap.size ≤ g) : Up W (wr3 w g K x) :=
  up_setCells g hg [.int .i64 x.1, .int .i64 x.2.1, .int .i64 x.2.2] (K * 3) w h
theorem frz_write (w : World) (g K j : Nat) (x : F3) : (wr3 w g K x).frozen? ⟨g, j, none⟩ = w.frozen? ⟨g, j, none⟩ := by
  unfold wr3
  rw [World.frozen?_setCell, World.frozen?_setCell, World.frozen?_setCell]
theorem Hc.drew {w : World} {g n : Nat} {F : Nat → F3} (h : Hc w g F n) : Hc w.drew g F n := ⟨h.c0, h.c1, h.c2⟩
theorem Hc.mono {w : World} {g n m : Nat} {F : Nat → F3} (h : Hc w g F n) (hm : m ≤ n) : Hc w g F m := ⟨fun j hj => h.c0 j (by omega), fun j hj => h.c1 j (by omega), fun j hj => h.c2 j (by omega)⟩
end Go.Proofs.AO
