/- The kinds of the views cells; the pools. No conditions beside those in its theorems. -/
import Derived.Test.YtgmdginjikhamaaAO21
set_option linter.unusedSimpArgs false
namespace Go.Proofs.AO
open Go.RowKit Go.Maps Go.Shelf Go.Lib Go.Sort Go.ChangeShapes Go.WideShapes Go.ChangeAt Go.Deep
set_option linter.unusedVariables false
set_option maxRecDepth 100000
set_option maxHeartbeats 1000000
def K10 : List Flat.FK := [.n .i64, .b, .n .i64, .n .i64, .n .i64, .n .i64, .n .i64, .n .i64, .n .i64, .n .i64]
def K80 : List Flat.FK := (List.replicate 8 K10).flatten
theorem k80 : Flat.kinds Try.prog 5 29 = some K80 := by kernel_rfl
theorem l80 : Flat.lay Try.prog 5 29 = true := by kernel_rfl
theorem k47 : Flat.kinds Try.prog 5 47 = some (List.replicate 9 (.n .i64)) := by kernel_rfl
theorem l47 : Flat.lay Try.prog 5 47 = true := by kernel_rfl
theorem k87 : Flat.kinds Try.prog 5 87 = some (List.replicate 3 (.n .i64)) := by kernel_rfl
theorem l87 : Flat.lay Try.prog 5 87 = true := by kernel_rfl
theorem k3 : Flat.kinds Try.prog 5 3 = some (List.replicate 1 (.n .i64)) := by kernel_rfl
theorem l3 : Flat.lay Try.prog 5 3 = true := by kernel_rfl
theorem k83 : Flat.kinds Try.prog 5 83 = some [.n .i64, .n .i64, .n .i64, .n .i64, .n .i64, .n .u64, .n .i64, .n .i64, .n .i64, .n .i64] := by kernel_rfl
theorem l83 : Flat.lay Try.prog 5 83 = true := by kernel_rfl
theorem k93 : ∃ ks, Flat.kinds Try.prog 5 93 = some ks ∧ ks[0]? = some (.n .i64) ∧ ks[1]? = some (.n .i64) := by
  have h : (Flat.kinds Try.prog 5 93).map (fun ks => (ks[0]?, ks[1]?)) = some (some (.n .i64), some (.n .i64)) := by kernel_rfl
  cases hk : Flat.kinds Try.prog 5 93 with
  | none => rw [hk] at h; cases h
  | some ks => rw [hk] at h; simp at h; exact ⟨ks, rfl, by rw [List.getElem?_eq_some_iff] at *; simpa using h.1, h.2⟩
theorem l93 : Flat.lay Try.prog 5 93 = true := by kernel_rfl
theorem k80_get (k : Nat) (hk : k < 8) : K80[k * 10]? = some (.n .i64) ∧ ∀ j, j < 4 → K80[k * 10 + (2 + j)]? = some (.n .i64) := by
  have h : k = 0 ∨ k = 1 ∨ k = 2 ∨ k = 3 ∨ k = 4 ∨ k = 5 ∨ k = 6 ∨ k = 7 := by omega
  rcases h with rfl | rfl | rfl | rfl | rfl | rfl | rfl | rfl <;> exact ⟨rfl, fun j hj => match j, hj with | 0, _ => rfl | 1, _ => rfl | 2, _ => rfl | 3, _ => rfl⟩
def intAt (c : List Value) (i : Nat) : Int := match c[i]? with | some (.int _ z) => z | _ => 0
theorem pools_open (A : Array Value) (c : List Value) (hc : Flat.Cells K80 c) (hsub : ∀ j u, c[j]? = some u → A[4 + j]? = some u) : ∃ PA pc ro, Po A PA pc ro := by
  have hl : c.length = 80 := hc.length
  have hget : ∀ k t, t < 10 → (c.toArray.extract (k * 10) (k * 10 + 10))[t]? = c[k * 10 + t]? := by
    intro k t ht
    rw [Array.getElem?_extract]
    simp only [List.size_toArray, hl]
    by_cases h : t < min (k * 10 + 10) 80 - k * 10
    · rw [if_pos h]; simp
    · rw [if_neg h, List.getElem?_eq_none (by omega)]
  refine ⟨c.toArray, fun k => c.toArray.extract (k * 10) (k * 10 + 10), fun k j => intAt c (k * 10 + (2 + j)), ⟨by simpa using hl, fun j u h => hsub j u (by simpa using h), fun k hk w => ?_, fun k hk => ⟨by simp [hl]; omega, ?_⟩, fun k hk => ?_, fun k hk j hj => ?_⟩⟩
  · have h1 : (k : Int) < 8 := by omega
    simp [Instr.index, part, run_underlying Try.underlying29, Try.isAgg28, Try.sizeOf28, go_sem]
    intro h; omega
  · rw [Array.all_eq_true_iff_forall_mem]
    intro x hx
    rw [Array.mem_extract_iff_getElem] at hx
    obtain ⟨m, hm, rfl⟩ := hx
    exact hc.one _ (by simp)
  · obtain ⟨z, hz, _⟩ := hc.get _ _ (k80_get k hk).1
    exact ⟨z, by have := hget k 0 (by omega); rw [this]; exact hz⟩
  · obtain ⟨z, hz, _⟩ := hc.get _ _ ((k80_get k hk).2 j hj)
    rw [hget k (2 + j) (by omega), hz]
    simp [intAt, hz]
end Go.Proofs.AO
