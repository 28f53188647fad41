/- GreatView: false means that no list is longer than 40. No conditions beside those in its theorems. -/
import Derived.Test.YtgmdginjikhamaaAO16
set_option linter.unusedSimpArgs false
namespace Go.Proofs.AO
open Go.RowKit Go.Maps Go.Shelf Go.Lib Go.Sort
set_option linter.unusedVariables false
set_option maxRecDepth 100000
set_option maxHeartbeats 1000000
def Gr (W : World) (n0 n1 n2 n3 n5 n6 : Nat) (e : Ending) (w' : World) : Prop := ∃ r, e = .returned (.bool r) ∧ Up W w' ∧ (r = false → n0 ≤ 40 ∧ n1 ≤ 40 ∧ n2 ≤ 40 ∧ n3 ≤ 40 ∧ n5 ≤ 40 ∧ n6 ≤ 40)
theorem great_any (A : Array Value) (W : World) (a0 a1 a2 a3 a5 a6 : Option Addr) (n0 n1 n2 n3 n5 n6 c0 c1 c2 c3 c5 c6 : Nat)
    (h0 : A[0]? = some (.slice a0 n0 c0)) (h1 : A[1]? = some (.slice a1 n1 c1)) (h2 : A[2]? = some (.slice a2 n2 c2)) (h3 : A[3]? = some (.slice a3 n3 c3)) (h5 : A[84]? = some (.slice a5 n5 c5)) (h6 : A[85]? = some (.slice a6 n6 c6)) :
    Calls Try.prog 5 #[.agg A] W (Gr W n0 n1 n2 n3 n5 n6) := by
  have hc : ∀ j, (W.alloc (.cells A 32)).cell? ⟨W.heap.size, j, none⟩ = A[j]? := fun j => cell_of_row _ _ _ _ _ _ (heap_alloc_last W _)
  have up : Up W (W.alloc (.cells A 32)) := Up.alloc W _ _
  have f0 := (hc 0).trans h0
  have f1 := (hc 1).trans h1
  have f2 := (hc 2).trans h2
  have f3 := (hc 3).trans h3
  have f5 := (hc 84).trans h5
  have f6 := (hc 85).trans h6
  clear hc
  go_enter Try.func5, Try.ntmps5
  go_wp2
  all_goals go_ret
  all_goals exact ⟨_, rfl, up, fun h => by simp at h <;> omega⟩
end Go.Proofs.AO
