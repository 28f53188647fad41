/- word.With; pte.May. No conditions beside those in its theorems. -/
import Derived.Test.YtgmdginjikhamaaSA
import Derived.Test.YtgmdginjikhamaaAW
set_option linter.unusedSimpArgs false
noncomputable section
namespace AW
open Go Eng Go.Proofs
theorem fits11 : says true (eval cfg 300 X0 (.call 46 [.one (.int .u64 1), .one (.int .i64 1)]) ⟨.nil, 0⟩) = true := by decide +kernel
theorem fits_11 (w : World) : Calls Try.prog 46 #[.int .u64 1, .int .i64 1] w fun e w' => e = .returned (.bool true) ∧ w.heap.size ≤ w'.heap.size ∧ (∀ r, r < w.heap.size → w'.heap[r]? = w.heap[r]?) ∧ w'.os = w.os ∧ w'.tape = w.tape ∧ w'.output = w.output := by
  obtain ⟨h', hk'⟩ := says_some fits11
  refine (calls_eval (σ := fun _ => 0) (ok _) (ext _) hk' (.cons rfl (.cons rfl .nil)) w).mono ?_
  rintro e w' ⟨v', rfl, ⟨ρ, hv⟩, h1, h2, h3, h4, h5, h6⟩
  exact ⟨congrArg _ hv, h1, h2, h3, h4, h5⟩
end AW
namespace Go.Proofs.AO
open Go.RowKit Go.Maps Go.Shelf Go.Sort
set_option linter.unusedVariables false
set_option linter.unusedSimpArgs false
set_option maxRecDepth 100000
set_option maxHeartbeats 1000000
theorem fits_11 (W : World) : Calls Try.prog 46 #[.int .u64 1, .int .i64 1] W fun e w' => e = .returned (.bool true) ∧ Up W w' := (AW.fits_11 W).mono fun e w' ⟨h, h1, h2, h3, h4, h5⟩ => ⟨h, h3, h4, h5, h1, h2⟩
theorem with_1 (F k : Nat) (hk : k < 6) (hF : F < 2 ^ k) (W : World) : Calls Try.prog 63 #[.int .u64 F, .int .i64 k, .int .i64 1, .int .u64 1] W fun e w' => e = .returned (.tuple #[.int .u64 ((F + 2 ^ k : Nat) : Int), .int .i64 0]) ∧ Up W w' := by
  have h3 := with_bits k hk F hF
  have hw : IntKind.u64.wrap (2 ^ k : Nat) = (2 ^ k : Nat) := by
    have : k = 0 ∨ k = 1 ∨ k = 2 ∨ k = 3 ∨ k = 4 ∨ k = 5 := by omega
    rcases this with rfl | rfl | rfl | rfl | rfl | rfl <;> decide
  go_enter Try.func63, Try.ntmps63
  go_wp2_with (first
    | (go_at_call 75; refine (may_1 k (by omega) _).mono ?_; rintro e w' ⟨rfl, rfl⟩)
    | (go_at_call 46; refine (fits_11 _).mono ?_; rintro e w' ⟨rfl, hu⟩)
    | (go_at_call 76; refine (ones_1 _).mono ?_; rintro e w' ⟨rfl, rfl⟩))
  refine bodyPost_ret (results_tmp2 rfl _ _ _) rfl ?_
  refine ⟨?_, hu⟩
  have e : (2 : Int) ^ k = ((2 ^ k : Nat) : Int) := by simp
  show Ending.returned (.tuple #[.int .u64 (bits .or .u64 (bits .andNot .u64 (F : Int) (IntKind.u64.wrap ((2 : Int) ^ k))) (IntKind.u64.wrap ((2 : Int) ^ k))), .int .i64 0]) = _
  rw [e, hw, h3]
end Go.Proofs.AO
namespace Go.Proofs.AO
open Go.RowKit Go.Maps Go.Shelf Go.Sort
set_option linter.unusedVariables false
set_option linter.unusedSimpArgs false
set_option maxRecDepth 100000
set_option maxHeartbeats 1000000
/-- an entry's value -/
abbrev En (v l r x : Bool) (f : Int) : Value := .agg #[.bool v, .bool l, .bool r, .bool x, .int .i64 f]
def mayE (v l r x : Bool) (f : Nat) : Bool := if v then (l == (r || x)) else (!l && !r && !x && f == 0)
theorem mayP (v l r x : Bool) (f : Nat) (hf : f < 64) (W : World) : Calls Try.prog 64 #[En v l r x f] W fun e w' => e = .returned (.bool (mayE v l r x f)) ∧ Up W w' := by
  have c := fun j => cell_new W #[.bool v, .bool l, .bool r, .bool x, .int .i64 f] 59 j
  have c0 := c 0
  have c1 := c 1
  have c2 := c 2
  have c3 := c 3
  have c4 := c 4
  clear c
  have h1 : (f : Int) < 64 := by omega
  have up : Up W (W.alloc (.cells #[.bool v, .bool l, .bool r, .bool x, .int .i64 f] 59)) := Up.alloc W _ _
  cases v <;> cases l <;> cases r <;> cases x
  all_goals
    (go_enter Try.func64, Try.ntmps64
     go_wp2)
  all_goals go_ret
  all_goals refine ⟨?_, ?_⟩
  all_goals first | exact up | (simp [mayE]; done) | (simp [mayE]; omega) | (subst_vars; first | exact up | (simp [mayE]; done)) | trace_state
end Go.Proofs.AO
