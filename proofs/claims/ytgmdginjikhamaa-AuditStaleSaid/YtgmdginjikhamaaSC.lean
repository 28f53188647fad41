/- Results in cells; flags. No conditions beside those in its theorems. -/
import Derived.Test.YtgmdginjikhamaaSB
import Derived.Laws.ResultCell
set_option linter.unusedSimpArgs false
namespace Go.Proofs.AO
open Go.RowKit Go.Maps Go.Shelf Go.Sort
set_option linter.unusedVariables false
set_option linter.unusedSimpArgs false
set_option maxRecDepth 100000
set_option maxHeartbeats 1000000
theorem res59 {fn : Func} {p u : Tmp} (h : fn.results = #[.cell p 59, .tmp u]) (tmps : Array Value) (w : World) (b : Nat) (v0 v1 v2 v3 v4 : Value) (hp : tmps.getD p undef = .pointer (some ⟨b, 0, none⟩))
    (c0 : w.cell? ⟨b, 0, none⟩ = some v0) (c1 : w.cell? ⟨b, 1, none⟩ = some v1) (c2 : w.cell? ⟨b, 2, none⟩ = some v2) (c3 : w.cell? ⟨b, 3, none⟩ = some v3) (c4 : w.cell? ⟨b, 4, none⟩ = some v4) :
    (results fn tmps).run Try.prog w = .ok (.tuple #[.agg #[v0, v1, v2, v3, v4], tmps.getD u undef]) w := by
  rw [results_cell_tmp h]
  have hp' : tmps[p]?.getD undef = .pointer (some ⟨b, 0, none⟩) := by simpa using hp
  simp [hp, hp', asAddr, go_sem, c0, c1, c2, c3, c4]
end Go.Proofs.AO
namespace Go.Proofs.AO
open Go.RowKit Go.Maps Go.Shelf Go.Sort
set_option linter.unusedVariables false
set_option linter.unusedSimpArgs false
set_option maxRecDepth 100000
set_option maxHeartbeats 1000000
abbrev pv (b j : Nat) : Value := .pointer (some ⟨b, j, none⟩)
theorem res123 {fn : Func} {p : Tmp} (h : fn.results = #[.cell p 123]) (tmps : Array Value) (w : World) (b : Nat) (v0 v1 v2 v3 : Value) (hp : tmps.getD p undef = .pointer (some ⟨b, 0, none⟩))
    (c0 : w.cell? ⟨b, 0, none⟩ = some v0) (c1 : w.cell? ⟨b, 1, none⟩ = some v1) (c2 : w.cell? ⟨b, 2, none⟩ = some v2) (c3 : w.cell? ⟨b, 3, none⟩ = some v3) :
    (results fn tmps).run Try.prog w = .ok (.agg #[v0, v1, v2, v3]) w := by
  have hp' : tmps[p]?.getD undef = .pointer (some ⟨b, 0, none⟩) := by simpa using hp
  simp [results, h, hp', asAddr, go_sem, c0, c1, c2, c3]
theorem flags_f (b : Nat) (W : World) : Calls Try.prog 61 #[pv b 0] W fun e w' => e = .returned (.agg #[pv b 0, pv b 1, pv b 2, pv b 3]) ∧ Up W w' := by
  have c := fun (cs : Array Value) j => cell_new W cs 123 j
  have z : ∀ (cs : Array Value) j, (W.alloc (.cells cs 123)).frozen? ⟨W.heap.size, j, none⟩ = false := fun cs j => by unfold World.frozen?; rw [heap_alloc_last]; simp
  have up : ∀ cs : Array Value, Up W (W.alloc (.cells cs 123)) := fun cs => Up.alloc W _ _
  go_enter Try.func61, Try.ntmps61
  go_wp2
  go_region
  go_wp2
  have k := c #[pv b 0, pv b 1, pv b 2, pv b 3]
  exact bodyPost_ret (res123 rfl _ _ W.heap.size _ _ _ _ rfl (k 0) (k 1) (k 2) (k 3)) rfl ⟨rfl, (up _).trans (Up.drew _)⟩
end Go.Proofs.AO
