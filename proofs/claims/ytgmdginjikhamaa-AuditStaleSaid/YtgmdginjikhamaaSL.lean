/- audit.memory; ref2.New. No conditions beside those in its theorems. -/
import Derived.Test.YtgmdginjikhamaaSH
import Derived.Test.YtgmdginjikhamaaSK
import Derived.Laws.MakeOwn
import Derived.StillTailTactics
set_option linter.unusedSimpArgs false
namespace Go.Proofs.AO
open Go.RowKit Go.Maps Go.Shelf Go.Sort
set_option linter.unusedVariables false
set_option linter.unusedSimpArgs false
set_option maxRecDepth 100000
set_option maxHeartbeats 2000000
theorem odd_f (q : Option Addr) (n c : Nat) (hn : n ≤ 20) (W : World) : Calls Try.prog 38 #[.slice q n c] W fun e w' => e = .returned (.bool ((n : Int) != 8)) ∧ w' = W := by
  go_enter Try.func38, Try.ntmps38
  go_wp2
  go_ret
  exact ⟨rfl, rfl⟩
theorem indexf_f (p : Option Addr) (L cp : Nat) (ln : Nat → Nat) (xw : Nat → Nat → Nat) (W : World) (h : Wl W p L ln xw) :
    Calls Try.prog 60 #[.slice p L cp, .func (.func 38) #[] #[]] W fun e w' => (∃ r : Int, e = .returned (.int .i64 r) ∧ (0 ≤ r ↔ ¬ ∀ i, i < L → ln i = 8)) ∧ w' = W := by
  have hL := h.l70
  go_enter Try.func60, Try.ntmps60
  go_wp2
  go_loopw [8] (fun i w' => ∃ k : Nat, k ≤ L ∧ i = .int .i64 k ∧ w' = W ∧ ∀ j, j < k → ln j = 8) (fun i _ => L - (intOf i).toNat)
  case atStart => exact ⟨0, Nat.zero_le _, rfl, rfl, fun j hj => by omega⟩
  case round =>
    obtain ⟨k, hk, rfl, hw, h8⟩ := hrel
    subst hw
    by_cases hlt : k < L
    · obtain ⟨B, O, q, c, rfl, hrow, _⟩ := h.row k hlt
      have h20 := h.n20 k hlt
      have ho := fun W => odd_f q (ln k) c h20 W
      by_cases h8k : ln k = 8
      · rw [h8k] at hrow
        have ho := fun W => odd_f q 8 c (by omega) W
        go_wp2_with (first | (go_at_call 38; refine (ho _).mono ?_; rintro e w' ⟨rfl, hw⟩; rw [hw]; clear hw))
        go_roundw
        case rel => exact ⟨k + 1, by omega, by go_num, by trivial, fun j hj => if hjk : j = k then hjk ▸ h8k else h8 j (by omega)⟩
        case measure => simp [intOf]; omega
      · have hb : ((ln k : Int) != 8) = true := by simp; omega
        rw [hb] at ho
        go_wp2_with (first | (go_at_call 38; refine (ho _).mono ?_; rintro e w' ⟨rfl, hw⟩; rw [hw]; clear hw))
        go_ret
        exact ⟨⟨_, rfl, by constructor
                           · intro _ hh
                             exact h8k (hh k hlt)
                           · intro _; omega⟩, rfl⟩
    · obtain rfl : k = L := by omega
      go_wp2
      go_ret
      exact ⟨⟨_, rfl, by constructor
                         · intro hh
                           exact absurd hh (by decide)
                         · intro hh
                           exact absurd h8 hh⟩, rfl⟩
theorem containsf_f (p : Option Addr) (L cp : Nat) (ln : Nat → Nat) (xw : Nat → Nat → Nat) (W : World) (h : Wl W p L ln xw) :
    Calls Try.prog 37 #[.slice p L cp, .func (.func 38) #[] #[]] W fun e w' => e = .returned (.bool (decide (¬ ∀ i, i < L → ln i = 8))) ∧ w' = W := by
  have hcall := indexf_f p L cp ln xw W h
  go_enter Try.func37, Try.ntmps37
  go_wp2_with (go_at_call 60; refine hcall.mono ?_; rintro e w' ⟨⟨r, rfl, hr⟩, hw⟩; rw [hw]; clear hw)
  go_ret
  refine ⟨?_, rfl⟩
  refine congrArg (fun b => Ending.returned (.bool b)) (decide_eq_decide.2 ?_)
  simp
/-- are the words a memory's? -/
def whole (L : Nat) (ln : Nat → Nat) : Bool := decide (1 ≤ L ∧ L ≤ 64 ∧ ∀ i, i < L → ln i = 8)
theorem memory_f (p : Option Addr) (L cp : Nat) (ln : Nat → Nat) (xw : Nat → Nat → Nat) (W : World) (h : Wl W p L ln xw) :
    Calls Try.prog 23 #[.slice p L cp] W fun e w' => e = .returned (.bool (whole L ln)) ∧ w' = W := by
  have hcall := containsf_f p L cp ln xw W h
  have hL := h.l70
  by_cases h8 : ∀ i, i < L → ln i = 8
  · rw [decide_eq_false (fun hh => hh h8)] at hcall
    go_enter Try.func23, Try.ntmps23
    go_wp2_with (go_at_call 37; refine hcall.mono ?_; rintro e w' ⟨rfl, hw⟩; rw [hw]; clear hw)
    all_goals go_ret
    all_goals refine ⟨?_, rfl⟩
    all_goals first
      | exact congrArg (fun b => Ending.returned (.bool b)) (decide_eq_true (p := 1 ≤ L ∧ L ≤ 64 ∧ ∀ i, i < L → ln i = 8) ⟨by omega, by omega, h8⟩).symm
      | exact congrArg (fun b => Ending.returned (.bool b)) (decide_eq_false (p := 1 ≤ L ∧ L ≤ 64 ∧ ∀ i, i < L → ln i = 8) (fun hh => by omega)).symm
      | exact congrArg (fun b => Ending.returned (.bool b)) (decide_eq_false (p := 1 ≤ L ∧ L ≤ 64 ∧ ∀ i, i < L → ln i = 8) (fun hh => h8 hh.2.2)).symm
  · rw [decide_eq_true h8] at hcall
    go_enter Try.func23, Try.ntmps23
    go_wp2_with (go_at_call 37; refine hcall.mono ?_; rintro e w' ⟨rfl, hw⟩; rw [hw]; clear hw)
    all_goals go_ret
    all_goals refine ⟨?_, rfl⟩
    all_goals first
      | exact congrArg (fun b => Ending.returned (.bool b)) (decide_eq_true (p := 1 ≤ L ∧ L ≤ 64 ∧ ∀ i, i < L → ln i = 8) ⟨by omega, by omega, h8⟩).symm
      | exact congrArg (fun b => Ending.returned (.bool b)) (decide_eq_false (p := 1 ≤ L ∧ L ≤ 64 ∧ ∀ i, i < L → ln i = 8) (fun hh => by omega)).symm
      | exact congrArg (fun b => Ending.returned (.bool b)) (decide_eq_false (p := 1 ≤ L ∧ L ≤ 64 ∧ ∀ i, i < L → ln i = 8) (fun hh => h8 hh.2.2)).symm
end Go.Proofs.AO
namespace Go.Proofs.AO
open Go.RowKit Go.Maps Go.Shelf Go.Sort
set_option linter.unusedVariables false
set_option linter.unusedSimpArgs false
set_option maxRecDepth 100000
set_option maxHeartbeats 2000000
theorem info66 : (Try.prog.info? 66).map (fun i => (i.zero, i.size, i.bytes)) = some (some (.int .u64 0), 1, 8) := by kernel_rfl
/-- a new memory of n frames: noughts -/
structure Mz (W w : World) (M B n : Nat) (wd : Nat → Nat) : Prop where
  up : Up W w
  gM : W.heap.size ≤ M
  gB : W.heap.size ≤ B
  ne : M ≠ B
  me : Me w M B n (8 * n) wd
  fz : ∀ j, w.frozen? ⟨B, j, none⟩ = false
theorem Mz.to {W w w' : World} {M B n : Nat} {wd : Nat → Nat} (h : Mz W w M B n wd) (u : Up w w') (hb : B < w.heap.size) : Mz W w' M B n wd := ⟨h.up.trans u, h.gM, h.gB, h.ne, h.me.up u, fun j => (u.fz _ hb).trans (h.fz j)⟩
theorem new_bad (L : Int) (h : L < 1 ∨ 64 < L) (W : World) : Calls Try.prog 26 #[.int .i64 L] W fun e w' => e = .returned (.tuple #[.pointer none, .int .i64 3]) ∧ w' = W := by
  rcases h with h | h
  · go_enter Try.func26, Try.ntmps26
    go_wp2
    refine bodyPost_ret (results_tmp2 rfl _ _ _) rfl ?_
    exact ⟨rfl, rfl⟩
  · have h1 : ¬ L < 1 := by omega
    go_enter Try.func26, Try.ntmps26
    go_wp2
    refine bodyPost_ret (results_tmp2 rfl _ _ _) rfl ?_
    exact ⟨rfl, rfl⟩
theorem new_f (L : Nat) (h1 : 1 ≤ L) (h2 : L ≤ 64) (W : World) : Calls Try.prog 26 #[.int .i64 L] W fun e w' => e = .returned (.tuple #[.pointer (some ⟨W.heap.size + 1, 0, none⟩), .int .i64 0]) ∧ Mz W w' (W.heap.size + 1) W.heap.size L (fun _ => 0) := by
  obtain ⟨i, hi, hz0, hz1, hz2⟩ := info_parts info66
  have hrun := run_make (P := Try.prog) (w := W) 41 66 i (.int .u64 0) Try.underlying41 hi hz0 .i64 .i64 (8 * (L : Int)) (8 * (L : Int)) (by omega) (Int.le_refl _) (by rw [hz2]; omega) (by omega)
  rw [show (8 * (L : Int)).toNat = 8 * L by omega, hz1, Nat.mul_one, show (Value.int IntKind.u64 0).cells = #[.int .u64 0] from rfl] at hrun
  clear hi hz0 hz1 hz2
  obtain ⟨C, hC⟩ : ∃ C, C = madeCells #[.int .u64 0] (8 * L) := ⟨_, rfl⟩
  rw [← hC] at hrun
  have hcell : ∀ j, j < 8 * L → C[j]? = some (.int .u64 0) := fun j hj => by
    rw [hC, madeCells, Array.getElem?_map, Array.getElem?_range, if_pos hj]
    simp [Nat.mod_one]
  clear hC
  have hL0 : ¬ (L : Int) < 1 := by omega
  go_enter Try.func26, Try.ntmps26
  go_wp2
  refine bodyPost_ret (results_tmp2 rfl _ _ _) rfl ?_
  have s1 : ∀ o, (W.alloc o).heap.size = W.heap.size + 1 := fun o => by show (W.heap.push _).size = _; simp
  refine ⟨rfl, (Up.alloc _ _ _).trans (Up.alloc _ _ _), by omega, Nat.le_refl _, by omega, ⟨h2, ?_, fun j hj => (Up.alloc _ _ _).keeps ((cell_new W C 66 j).trans (hcell j hj)), fun _ => by decide⟩, fun j => ?_⟩
  · exact (cell_new' _ _ _ _ 0 (s1 _).symm).trans rfl
  · rw [(Up.alloc _ _ _).fz _ (by show W.heap.size < (W.alloc _).heap.size; rw [s1]; omega)]
    unfold World.frozen?
    rw [heap_alloc_last]
    simp
end Go.Proofs.AO
