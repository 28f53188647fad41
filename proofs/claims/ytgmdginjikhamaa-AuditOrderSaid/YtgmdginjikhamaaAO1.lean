/- Seat r6, part 1: worlds that have grown, rows of ints, the loops of audit.is. No conditions beside those in its theorems. -/
import Derived.Test.YtgmdginjikhamaaRows
import Derived.WalkKit
import Derived.IntWalk
set_option linter.unusedSimpArgs false
namespace Go.Proofs.AO
open Go.RowKit
set_option linter.unusedVariables false
/-- some bool is returned -/
def AB (e : Ending) : Prop := ∃ r, e = .returned (.bool r)
/-- the heap has grown; what was there is as it was -/
structure Up (W w : World) : Prop where
  os : w.os = W.os
  tape : w.tape = W.tape
  output : w.output = W.output
  size : W.heap.size ≤ w.heap.size
  block : ∀ k, k < W.heap.size → w.heap[k]? = W.heap[k]?
theorem Up.refl (W : World) : Up W W := ⟨rfl, rfl, rfl, Nat.le_refl _, fun _ _ => rfl⟩
theorem Up.trans {A B C : World} (h : Up A B) (g : Up B C) : Up A C :=
  ⟨g.os.trans h.os, g.tape.trans h.tape, g.output.trans h.output, Nat.le_trans h.size g.size, fun k hk => (g.block k (Nat.lt_of_lt_of_le hk h.size)).trans (h.block k hk)⟩
theorem Up.kept {W w : World} (h : Up W w) : W.keptBut w (fun _ => False) := by
  refine ⟨h.os, h.output, ?_⟩
  intro i hi
  rw [h.block i hi]
  exact (World.keptBut_refl W (fun _ => False)).2.2 i hi
theorem Up.fz {W w : World} (h : Up W w) (a : Addr) (ha : a.block < W.heap.size) : w.frozen? a = W.frozen? a := World.frozen?_of_block (h.block a.block ha)
theorem Up.cell {W w : World} (h : Up W w) {a : Addr} (ha : a.block < W.heap.size) : w.cell? a = W.cell? a := World.cell?_of_block (h.block a.block ha)
theorem Up.keeps {W w : World} (h : Up W w) {a : Addr} {v : Value} (hc : W.cell? a = some v) : w.cell? a = some v := (h.cell (World.block_lt_of_cell? W a hc)).trans hc
theorem Up.heap {W w : World} (h : Up W w) {k : Nat} {o : Obj} (hc : W.heap[k]? = some o) : w.heap[k]? = some o := (h.block k (Array.getElem?_eq_some_iff.1 hc).1).trans hc
theorem Up.push (W : World) (o : Obj) : Up W (W.alloc o) := by
  refine ⟨rfl, rfl, rfl, ?_, fun k hk => ?_⟩
  · show _ ≤ (W.heap.push o).size
    simp
  · show (W.heap.push _)[k]? = _
    rw [Array.getElem?_push]
    rw [if_neg (by omega)]
theorem Up.alloc (W : World) (cs : Array Value) (t : TypeId) : Up W (W.alloc (.cells cs t)) := Up.push W _
theorem Up.grow {W w w1 : World} {row : Option Nat} (h : Up W w) (hg : w.grownBy w1 row) (hr : ∀ k, row = some k → W.heap.size ≤ k) : Up W w1 :=
  ⟨hg.os.trans h.os, hg.tape.trans h.tape, hg.output.trans h.output, Nat.le_trans h.size hg.size, fun k hk => (hg.block k (Nat.lt_of_lt_of_le hk h.size) (fun e => by have := hr k e.symm; omega)).trans (h.block k hk)⟩
theorem within_any (x lo hi : Int) (W : World) : Calls Try.prog 45 #[.int .i64 x, .int .i64 lo, .int .i64 hi] W fun e w' => AB e ∧ w' = W := by
  go_enter Try.func45, Try.ntmps45
  go_wp2
  all_goals go_ret
  all_goals exact ⟨⟨_, rfl⟩, rfl⟩
theorem rights_any (x : Int) (W : World) : Calls Try.prog 47 #[.int .i64 x] W fun e w' => AB e ∧ w' = W := by
  go_enter Try.func47, Try.ntmps47
  go_wp2
  all_goals go_ret
  all_goals exact ⟨⟨_, rfl⟩, rfl⟩
theorem may_any (b off n cap : Nat) (z : Nat → Int) (W : World) (hn : n ≤ 9223372036854775807) (hc : ∀ j, j < n → W.cell? ⟨b, off + j, none⟩ = some (.int .i64 (z j))) : Calls Try.prog 43 #[.slice (some ⟨b, off, none⟩) n cap] W fun e w' => AB e ∧ w' = W := by
  go_enter Try.func43, Try.ntmps43
  go_wp2
  go_loop [7] (fun i => ∃ k : Nat, k ≤ n ∧ i = .int .i64 k) (fun i => n - (intOf i).toNat)
  case atStart => exact ⟨0, Nat.zero_le _, rfl⟩
  case round =>
    obtain ⟨k, hk, rfl⟩ := hrel
    have hcell : k < n → W.cell? ⟨b, off + k, none⟩ = some (.int .i64 (z k)) := fun h => hc k h
    go_wp2
    all_goals first
      | (go_round
         case rel => exact ⟨k + 1, by omega, by go_num⟩
         case measure => simp [intOf]; omega)
      | (go_ret; exact ⟨⟨_, rfl⟩, rfl⟩)
theorem cell_new (W : World) (cs : Array Value) (t : TypeId) (j : Nat) : (W.alloc (.cells cs t)).cell? ⟨W.heap.size, j, none⟩ = cs[j]? := by
  unfold World.cell?
  rw [show (⟨W.heap.size, j, none⟩ : Addr).block = W.heap.size from rfl, heap_alloc_new]
  rfl
theorem meet_any (a n b k : Int) (W : World) : Calls Try.prog 30 #[.int .i64 a, .int .i64 n, .int .i64 b, .int .i64 k] W fun e w' => AB e ∧ Up W w' := by
  go_enter Try.func30, Try.ntmps30
  go_wp2_with (go_at_call 43; refine (may_any W.heap.size 0 4 4 (fun j => match j with | 0 => a | 1 => n | 2 => b | _ => k) _ (by omega) (by intro j hj; rw [cell_new]; match j, hj with | 0, _ => rfl | 1, _ => rfl | 2, _ => rfl | 3, _ => rfl)).mono ?_; rintro e w' ⟨⟨r, rfl⟩, rfl⟩)
  all_goals go_ret
  all_goals exact ⟨⟨_, rfl⟩, Up.alloc _ _ _⟩
theorem inside_any (a n b k : Int) (W : World) : Calls Try.prog 44 #[.int .i64 a, .int .i64 n, .int .i64 b, .int .i64 k] W fun e w' => AB e ∧ Up W w' := by
  go_enter Try.func44, Try.ntmps44
  go_wp2_with (go_at_call 43; refine (may_any W.heap.size 0 4 4 (fun j => match j with | 0 => a | 1 => n | 2 => b | _ => k) _ (by omega) (by intro j hj; rw [cell_new]; match j, hj with | 0, _ => rfl | 1, _ => rfl | 2, _ => rfl | 3, _ => rfl)).mono ?_; rintro e w' ⟨⟨r, rfl⟩, rfl⟩)
  all_goals go_ret
  all_goals exact ⟨⟨_, rfl⟩, Up.alloc _ _ _⟩
def objV (z : Nat → Int) : Value := .agg #[.int .i64 (z 0), .int .i64 (z 1), .int .i64 (z 2), .int .i64 (z 3), .int .i64 (z 4), .int .i64 (z 5), .int .i64 (z 6), .int .i64 (z 7), .int .i64 (z 8)]
theorem untyped_any (x y : Nat → Int) (W : World) : Calls Try.prog 31 #[objV x, objV y] W fun e w' => AB e ∧ Up W w' := by
  unfold objV
  go_enter Try.func31, Try.ntmps31
  go_wp2_with (go_at_call 44; refine (inside_any _ _ _ _ _).mono ?_; rintro e w' ⟨⟨r, rfl⟩, hu⟩)
  all_goals go_ret
  · exact ⟨⟨_, rfl⟩, ((Up.alloc _ _ _).trans (Up.alloc _ _ _)).trans hu⟩
  · exact ⟨⟨_, rfl⟩, (Up.alloc _ _ _).trans (Up.alloc _ _ _)⟩
/-- a row that may be nil: n elements of es cells -/
def Rw (es : Nat) (W : World) (a : Option Addr) (n : Nat) (f : Nat → Nat → Value) : Prop := ∀ j, j < n → ∃ b off, a = some ⟨b, off, none⟩ ∧ ∀ t, t < es → W.cell? ⟨b, off + j * es + t, none⟩ = some (f j t)
theorem Rw.up {es : Nat} {W w : World} {a : Option Addr} {n : Nat} {f : Nat → Nat → Value} (h : Rw es W a n f) (hu : Up W w) : Rw es w a n f := fun j hj =>
  let ⟨b, off, h1, h2⟩ := h j hj; ⟨b, off, h1, fun t ht => hu.keeps (h2 t ht)⟩
end Go.Proofs.AO
