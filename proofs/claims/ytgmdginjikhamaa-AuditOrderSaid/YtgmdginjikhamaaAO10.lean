/- cap.May gives a bool and keeps what was. No conditions beside those in its theorems. -/
import Derived.Test.YtgmdginjikhamaaAO9
set_option linter.unusedSimpArgs false
namespace Go.Proofs.AO
open Go.RowKit Go.Maps Go.Shelf
set_option linter.unusedVariables false
set_option maxRecDepth 100000
set_option maxHeartbeats 2000000
theorem cwithin_any (x lo hi : Int) (W : World) : Calls Try.prog 45 #[.int .i64 x, .int .i64 lo, .int .i64 hi] W fun e w' => AB e ∧ w' = W := by
  go_enter Try.func45, Try.ntmps45
  go_wp2
  all_goals go_ret
  all_goals exact ⟨⟨_, rfl⟩, rfl⟩
theorem Up.drew (W : World) : Up W W.drew := ⟨rfl, rfl, rfl, Nat.le_refl _, fun _ _ => rfl⟩
theorem box2a (W : World) (A B : Array Value) (t u : TypeId) : (((W.alloc (.cells A t)).alloc (.cells B u)).drew).heap[W.heap.size]? = some (.cells A t (0, 0)) := (Up.alloc _ _ _).heap (heap_alloc_last _ _)
theorem box2b (W : World) (A B : Array Value) (t u : TypeId) : (((W.alloc (.cells A t)).alloc (.cells B u)).drew).heap[W.heap.size + 1]? = some (.cells B u (0, 0)) := by
  rw [← size_alloc W (.cells A t)]; exact heap_alloc_last _ _
theorem capMay_any (c0 c1 c2 c3 c4 c5 c6 c7 : Int) (W : World) : Calls Try.prog 32 #[.agg #[.int .i64 c0, .int .i64 c1, .int .i64 c2, .int .u64 c3, .int .i64 c4, .int .i64 c5, .int .i64 c6, .int .i64 c7]] W fun e w' => AB e ∧ Up W w' := by
  go_enter Try.func32, Try.ntmps32
  go_wp2_with (first
    | (go_at_call 45; refine (cwithin_any _ _ _ _).mono ?_; rintro e w' ⟨⟨r, rfl⟩, rfl⟩)
    | (go_at_call 47; refine (rights_any _ _).mono ?_; rintro e w' ⟨⟨r, rfl⟩, rfl⟩)
    | (go_at_call 46; refine (fits_any _ _ _).mono ?_; rintro e w' ⟨⟨r, rfl⟩, hu⟩))
  all_goals try (go_ret; exact ⟨⟨_, rfl⟩, (Up.alloc _ _ _).trans (Up.alloc _ _ _)⟩)
  all_goals go_region
  all_goals go_wp2_with (first
    | (go_at_call 45; refine (cwithin_any _ _ _ _).mono ?_; rintro e w' ⟨⟨r, rfl⟩, rfl⟩)
    | (go_at_call 47; refine (rights_any _ _).mono ?_; rintro e w' ⟨⟨r, rfl⟩, rfl⟩)
    | (go_at_call 46; refine (fits_any _ _ _).mono ?_; rintro e w' ⟨⟨r, rfl⟩, hu⟩; have ha := fun j => cell_of_row _ _ j _ _ _ (hu.heap (box2a _ _ _ _ _)); have hb := fun j => cell_of_row _ _ j _ _ _ (hu.heap (box2b _ _ _ _ _))))
  all_goals go_ret
  all_goals first
    | exact ⟨⟨_, rfl⟩, ((Up.alloc _ _ _).trans (Up.alloc _ _ _)).trans ((Up.drew _).trans hu)⟩
    | exact ⟨⟨_, rfl⟩, ((Up.alloc _ _ _).trans (Up.alloc _ _ _)).trans (Up.drew _)⟩
end Go.Proofs.AO
