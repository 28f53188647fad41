/- Worlds that have grown; loops over rows of objects. No conditions beside those in its theorems. -/
import Derived.Test.YtgmdginjikhamaaRows
import Derived.WalkKit
import Derived.IntWalk
import Derived.LoopTactic
set_option linter.unusedSimpArgs false
namespace Go.Proofs.AO
open Go.RowKit
set_option linter.unusedVariables false
/-- some bool is returned -/
def AB (e : Ending) : Prop := ∃ r, e = .returned (.bool r)
/-- the heap has grown; what was there is as it was -/
structure Up (W w : World) : Prop where
  os : w.os = W.os
  tape : w.tape = W.tape
  output : w.output = W.output
  size : W.heap.size ≤ w.heap.size
  block : ∀ k, k < W.heap.size → w.heap[k]? = W.heap[k]?
theorem Up.refl (W : World) : Up W W := ⟨rfl, rfl, rfl, Nat.le_refl _, fun _ _ => rfl⟩
theorem Up.trans {A B C : World} (h : Up A B) (g : Up B C) : Up A C :=
  ⟨g.os.trans h.os, g.tape.trans h.tape, g.output.trans h.output, Nat.le_trans h.size g.size, fun k hk => (g.block k (Nat.lt_of_lt_of_le hk h.size)).trans (h.block k hk)⟩
theorem Up.kept {W w : World} (h : Up W w) : W.keptBut w (fun _ => False) := by
  refine ⟨h.os, h.output, ?_⟩
  intro i hi
  rw [h.block i hi]
  exact (World.keptBut_refl W (fun _ => False)).2.2 i hi
theorem Up.fz {W w : World} (h : Up W w) (a : Addr) (ha : a.block < W.heap.size) : w.frozen? a = W.frozen? a := World.frozen?_of_block (h.block a.block ha)
theorem Up.cell {W w : World} (h : Up W w) {a : Addr} (ha : a.block < W.heap.size) : w.cell? a = W.cell? a := World.cell?_of_block (h.block a.block ha)
theorem Up.keeps {W w : World} (h : Up W w) {a : Addr} {v : Value} (hc : W.cell? a = some v) : w.cell? a = some v := (h.cell (World.block_lt_of_cell? W a hc)).trans hc
theorem Up.heap {W w : World} (h : Up W w) {k : Nat} {o : Obj} (hc : W.heap[k]? = some o) : w.heap[k]? = some o := (h.block k (Array.getElem?_eq_some_iff.1 hc).1).trans hc
theorem Up.push (W : World) (o : Obj) : Up W (W.alloc o) := by
  refine ⟨rfl, rfl, rfl, ?_, fun k hk => ?_⟩
  · show _ ≤ (W.heap.push o).size
    simp
  · show (W.heap.push _)[k]? = _
    rw [Array.getElem?_push]
    rw [if_neg (by omega)]
theorem Up.alloc (W : World) (cs : Array Value) (t : TypeId) : Up W (W.alloc (.cells cs t)) := Up.push W _
theorem Up.grow {W w w1 : World} {row : Option Nat} (h : Up W w) (hg : w.grownBy w1 row) (hr : ∀ k, row = some k → W.heap.size ≤ k) : Up W w1 :=
  ⟨hg.os.trans h.os, hg.tape.trans h.tape, hg.output.trans h.output, Nat.le_trans h.size hg.size, fun k hk => (hg.block k (Nat.lt_of_lt_of_le hk h.size) (fun e => by have := hr k e.symm; omega)).trans (h.block k hk)⟩
theorem within_any (x lo hi : Int) (W : World) : Calls Try.prog 45 #[.int .i64 x, .int .i64 lo, .int .i64 hi] W fun e w' => AB e ∧ w' = W := by
  go_enter Try.func45, Try.ntmps45
  go_wp2
  all_goals go_ret
  all_goals exact ⟨⟨_, rfl⟩, rfl⟩
theorem rights_any (x : Int) (W : World) : Calls Try.prog 47 #[.int .i64 x] W fun e w' => AB e ∧ w' = W := by
  go_enter Try.func47, Try.ntmps47
  go_wp2
  all_goals go_ret
  all_goals exact ⟨⟨_, rfl⟩, rfl⟩
theorem may_any (b off n cap : Nat) (z : Nat → Int) (W : World) (hn : n ≤ 9223372036854775807) (hc : ∀ j, j < n → W.cell? ⟨b, off + j, none⟩ = some (.int .i64 (z j))) : Calls Try.prog 43 #[.slice (some ⟨b, off, none⟩) n cap] W fun e w' => AB e ∧ w' = W := by
  go_enter Try.func43, Try.ntmps43
  go_wp2
  go_loop [7] (fun i => ∃ k : Nat, k ≤ n ∧ i = .int .i64 k) (fun i => n - (intOf i).toNat)
  case atStart => exact ⟨0, Nat.zero_le _, rfl⟩
  case round =>
    obtain ⟨k, hk, rfl⟩ := hrel
    have hcell : k < n → W.cell? ⟨b, off + k, none⟩ = some (.int .i64 (z k)) := fun h => hc k h
    go_wp2
    all_goals first
      | (go_round
         case rel => exact ⟨k + 1, by omega, by go_num⟩
         case measure => simp [intOf]; omega)
      | (go_ret; exact ⟨⟨_, rfl⟩, rfl⟩)
theorem cell_new (W : World) (cs : Array Value) (t : TypeId) (j : Nat) : (W.alloc (.cells cs t)).cell? ⟨W.heap.size, j, none⟩ = cs[j]? := by
  unfold World.cell?
  rw [show (⟨W.heap.size, j, none⟩ : Addr).block = W.heap.size from rfl, heap_alloc_new]
  rfl
theorem meet_any (a n b k : Int) (W : World) : Calls Try.prog 30 #[.int .i64 a, .int .i64 n, .int .i64 b, .int .i64 k] W fun e w' => AB e ∧ Up W w' := by
  go_enter Try.func30, Try.ntmps30
  go_wp2_with (go_at_call 43; refine (may_any W.heap.size 0 4 4 (fun j => match j with | 0 => a | 1 => n | 2 => b | _ => k) _ (by omega) (by intro j hj; rw [cell_new]; match j, hj with | 0, _ => rfl | 1, _ => rfl | 2, _ => rfl | 3, _ => rfl)).mono ?_; rintro e w' ⟨⟨r, rfl⟩, rfl⟩)
  all_goals go_ret
  all_goals exact ⟨⟨_, rfl⟩, Up.alloc _ _ _⟩
theorem inside_any (a n b k : Int) (W : World) : Calls Try.prog 44 #[.int .i64 a, .int .i64 n, .int .i64 b, .int .i64 k] W fun e w' => AB e ∧ Up W w' := by
  go_enter Try.func44, Try.ntmps44
  go_wp2_with (go_at_call 43; refine (may_any W.heap.size 0 4 4 (fun j => match j with | 0 => a | 1 => n | 2 => b | _ => k) _ (by omega) (by intro j hj; rw [cell_new]; match j, hj with | 0, _ => rfl | 1, _ => rfl | 2, _ => rfl | 3, _ => rfl)).mono ?_; rintro e w' ⟨⟨r, rfl⟩, rfl⟩)
  all_goals go_ret
  all_goals exact ⟨⟨_, rfl⟩, Up.alloc _ _ _⟩
def objV (z : Nat → Int) : Value := .agg #[.int .i64 (z 0), .int .i64 (z 1), .int .i64 (z 2), .int .i64 (z 3), .int .i64 (z 4), .int .i64 (z 5), .int .i64 (z 6), .int .i64 (z 7), .int .i64 (z 8)]
theorem untyped_any (x y : Nat → Int) (W : World) : Calls Try.prog 31 #[objV x, objV y] W fun e w' => AB e ∧ Up W w' := by
  unfold objV
  go_enter Try.func31, Try.ntmps31
  go_wp2_with (go_at_call 44; refine (inside_any _ _ _ _ _).mono ?_; rintro e w' ⟨⟨r, rfl⟩, hu⟩)
  all_goals go_ret
  · exact ⟨⟨_, rfl⟩, ((Up.alloc _ _ _).trans (Up.alloc _ _ _)).trans hu⟩
  · exact ⟨⟨_, rfl⟩, (Up.alloc _ _ _).trans (Up.alloc _ _ _)⟩
/-- a row that may be nil: n elements of es cells -/
def Rw (es : Nat) (W : World) (a : Option Addr) (n : Nat) (f : Nat → Nat → Value) : Prop := ∀ j, j < n → ∃ b off, a = some ⟨b, off, none⟩ ∧ ∀ t, t < es → W.cell? ⟨b, off + j * es + t, none⟩ = some (f j t)
theorem Rw.up {es : Nat} {W w : World} {a : Option Addr} {n : Nat} {f : Nat → Nat → Value} (h : Rw es W a n f) (hu : Up W w) : Rw es w a n f := fun j hj =>
  let ⟨b, off, h1, h2⟩ := h j hj; ⟨b, off, h1, fun t ht => hu.keeps (h2 t ht)⟩
end Go.Proofs.AO
namespace Go.Proofs.AO
open Go.RowKit
set_option linter.unusedVariables false
set_option maxRecDepth 100000
theorem isf_any (z : Nat → Int) (p q : Nat) (x y : Int) (W : World) (hp : W.cell? ⟨p, 0, none⟩ = some (.int .i64 x)) (hq : W.cell? ⟨q, 0, none⟩ = some (.int .i64 y)) :
    Calls Try.prog 49 #[objV z, .pointer (some ⟨p, 0, none⟩), .pointer (some ⟨q, 0, none⟩)] W fun e w' => AB e ∧ Up W w' := by
  unfold objV
  have hp' : ∀ cs t, (W.alloc (.cells cs t)).cell? ⟨p, 0, none⟩ = some (.int .i64 x) := fun cs t => (Up.alloc W cs t).keeps hp
  have hq' : ∀ cs t, (W.alloc (.cells cs t)).cell? ⟨q, 0, none⟩ = some (.int .i64 y) := fun cs t => (Up.alloc W cs t).keeps hq
  go_enter Try.func49, Try.ntmps49
  go_wp2
  all_goals go_ret
  all_goals exact ⟨⟨_, rfl⟩, Up.alloc _ _ _⟩
/-- some int is returned -/
def AI (e : Ending) : Prop := ∃ r, e = .returned (.int .i64 r)
theorem index_any (a : Option Addr) (n cap : Nat) (z : Nat → Nat → Int) (p q : Nat) (x y : Int) (W : World) (hn : n ≤ 9223372036854775807) (hr : Rw 9 W a n fun j t => .int .i64 (z j t))
    (hp : W.cell? ⟨p, 0, none⟩ = some (.int .i64 x)) (hq : W.cell? ⟨q, 0, none⟩ = some (.int .i64 y)) :
    Calls Try.prog 69 #[.slice a n cap, .func (.func 49) #[] #[.pointer (some ⟨p, 0, none⟩), .pointer (some ⟨q, 0, none⟩)]] W fun e w' => AI e ∧ Up W w' := by
  go_enter Try.func69, Try.ntmps69
  go_wp2
  go_loopw [8] (fun i w' => ∃ k : Nat, k ≤ n ∧ i = .int .i64 k ∧ Up W w') (fun i _ => n - (intOf i).toNat)
  case atStart => exact ⟨0, Nat.zero_le _, rfl, Up.refl W⟩
  case round =>
    obtain ⟨k, hk, rfl, hu⟩ := hrel
    by_cases hlt : k < n
    · obtain ⟨b, off, rfl, h1⟩ := hr k hlt
      have c0 : wr.cell? ⟨b, off + k * 9, none⟩ = some (.int .i64 (z k 0)) := hu.keeps (h1 0 (by omega))
      have c1 : wr.cell? ⟨b, off + k * 9 + 1, none⟩ = some (.int .i64 (z k 1)) := hu.keeps (h1 1 (by omega))
      have c2 : wr.cell? ⟨b, off + k * 9 + 2, none⟩ = some (.int .i64 (z k 2)) := hu.keeps (h1 2 (by omega))
      have c3 : wr.cell? ⟨b, off + k * 9 + 3, none⟩ = some (.int .i64 (z k 3)) := hu.keeps (h1 3 (by omega))
      have c4 : wr.cell? ⟨b, off + k * 9 + 4, none⟩ = some (.int .i64 (z k 4)) := hu.keeps (h1 4 (by omega))
      have c5 : wr.cell? ⟨b, off + k * 9 + 5, none⟩ = some (.int .i64 (z k 5)) := hu.keeps (h1 5 (by omega))
      have c6 : wr.cell? ⟨b, off + k * 9 + 6, none⟩ = some (.int .i64 (z k 6)) := hu.keeps (h1 6 (by omega))
      have c7 : wr.cell? ⟨b, off + k * 9 + 7, none⟩ = some (.int .i64 (z k 7)) := hu.keeps (h1 7 (by omega))
      have c8 : wr.cell? ⟨b, off + k * 9 + 8, none⟩ = some (.int .i64 (z k 8)) := hu.keeps (h1 8 (by omega))
      have hcall : Calls Try.prog 49 #[objV (z k), .pointer (some ⟨p, 0, none⟩), .pointer (some ⟨q, 0, none⟩)] wr _ := isf_any (z k) p q x y wr (hu.keeps hp) (hu.keeps hq)
      unfold objV at hcall
      clear hr h1
      go_wp2_with (go_at_call 49; refine hcall.mono ?_; rintro e w' ⟨⟨r, rfl⟩, hv⟩)
      · go_ret
        exact ⟨⟨_, rfl⟩, hu.trans hv⟩
      · go_roundw
        case rel => exact ⟨k + 1, by omega, by go_num, hu.trans hv⟩
        case measure => simp [intOf]; omega
    · go_wp2
      go_ret
      exact ⟨⟨_, rfl⟩, hu⟩
theorem contains_any (a : Option Addr) (n cap : Nat) (z : Nat → Nat → Int) (p q : Nat) (x y : Int) (W : World) (hn : n ≤ 9223372036854775807) (hr : Rw 9 W a n fun j t => .int .i64 (z j t))
    (hp : W.cell? ⟨p, 0, none⟩ = some (.int .i64 x)) (hq : W.cell? ⟨q, 0, none⟩ = some (.int .i64 y)) :
    Calls Try.prog 48 #[.slice a n cap, .func (.func 49) #[] #[.pointer (some ⟨p, 0, none⟩), .pointer (some ⟨q, 0, none⟩)]] W fun e w' => AB e ∧ Up W w' := by
  have hcall := index_any a n cap z p q x y W hn hr hp hq
  clear hr
  go_enter Try.func48, Try.ntmps48
  go_wp2_with (go_at_call 69; refine hcall.mono ?_; rintro e w' ⟨⟨r, rfl⟩, hv⟩)
  go_ret
  exact ⟨⟨_, rfl⟩, hv⟩
theorem size_alloc (W : World) (o : Obj) : (W.alloc o).heap.size = W.heap.size + 1 := by
  show (W.heap.push o).size = _
  simp
theorem cell_new' (W : World) (cs : Array Value) (t : TypeId) (k j : Nat) (hk : k = W.heap.size) : (W.alloc (.cells cs t)).cell? ⟨k, j, none⟩ = cs[j]? := by
  subst hk; exact cell_new W cs t j
theorem is_any (A : Array Value) (a : Option Addr) (n cap : Nat) (z : Nat → Nat → Int) (x y : Int) (W : World) (hn : n ≤ 9223372036854775807) (h0 : A[0]? = some (.slice a n cap)) (hr : Rw 9 W a n fun j t => .int .i64 (z j t)) :
    Calls Try.prog 33 #[.agg A, .int .i64 x, .int .i64 y] W fun e w' => AB e ∧ Up W w' := by
  have u1 := Up.alloc W A 32
  have u2 := Up.alloc (W.alloc (.cells A 32)) #[.int .i64 x] 3
  have u3 := Up.alloc ((W.alloc (.cells A 32)).alloc (.cells #[.int .i64 x] 3)) #[.int .i64 y] 3
  have hcall := contains_any a n cap z (W.heap.size + 1) (W.heap.size + 1 + 1) x y _ hn (hr.up ((u1.trans u2).trans u3))
    (u3.keeps ((cell_new' _ _ _ _ _ (by rw [size_alloc])).trans rfl)) ((cell_new' _ _ _ _ _ (by rw [size_alloc, size_alloc])).trans rfl)
  clear hr
  go_enter Try.func33, Try.ntmps33
  go_wp2_with (go_at_call 48; refine hcall.mono ?_; rintro e w' ⟨⟨r, rfl⟩, hv⟩)
  go_ret
  exact ⟨⟨_, rfl⟩, ((u1.trans u2).trans u3).trans hv⟩
end Go.Proofs.AO
