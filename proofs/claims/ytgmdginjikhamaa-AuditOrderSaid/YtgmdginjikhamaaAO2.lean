/- Seat r6, part 2: SameInts, OverInts and the like by loops. No conditions beside those in its theorems. -/
import Derived.Test.YtgmdginjikhamaaAO1
import Derived.LoopTactic
set_option linter.unusedSimpArgs false
namespace Go.Proofs.AO
open Go.RowKit
set_option linter.unusedVariables false
set_option maxRecDepth 100000
theorem isf_any (z : Nat → Int) (p q : Nat) (x y : Int) (W : World) (hp : W.cell? ⟨p, 0, none⟩ = some (.int .i64 x)) (hq : W.cell? ⟨q, 0, none⟩ = some (.int .i64 y)) :
    Calls Try.prog 49 #[objV z, .pointer (some ⟨p, 0, none⟩), .pointer (some ⟨q, 0, none⟩)] W fun e w' => AB e ∧ Up W w' := by
  unfold objV
  have hp' : ∀ cs t, (W.alloc (.cells cs t)).cell? ⟨p, 0, none⟩ = some (.int .i64 x) := fun cs t => (Up.alloc W cs t).keeps hp
  have hq' : ∀ cs t, (W.alloc (.cells cs t)).cell? ⟨q, 0, none⟩ = some (.int .i64 y) := fun cs t => (Up.alloc W cs t).keeps hq
  go_enter Try.func49, Try.ntmps49
  go_wp2
  all_goals go_ret
  all_goals exact ⟨⟨_, rfl⟩, Up.alloc _ _ _⟩
/-- some int is returned -/
def AI (e : Ending) : Prop := ∃ r, e = .returned (.int .i64 r)
theorem index_any (a : Option Addr) (n cap : Nat) (z : Nat → Nat → Int) (p q : Nat) (x y : Int) (W : World) (hn : n ≤ 9223372036854775807) (hr : Rw 9 W a n fun j t => .int .i64 (z j t))
    (hp : W.cell? ⟨p, 0, none⟩ = some (.int .i64 x)) (hq : W.cell? ⟨q, 0, none⟩ = some (.int .i64 y)) :
    Calls Try.prog 69 #[.slice a n cap, .func (.func 49) #[] #[.pointer (some ⟨p, 0, none⟩), .pointer (some ⟨q, 0, none⟩)]] W fun e w' => AI e ∧ Up W w' := by
  go_enter Try.func69, Try.ntmps69
  go_wp2
  go_loopw [8] (fun i w' => ∃ k : Nat, k ≤ n ∧ i = .int .i64 k ∧ Up W w') (fun i _ => n - (intOf i).toNat)
  case atStart => exact ⟨0, Nat.zero_le _, rfl, Up.refl W⟩
  case round =>
    obtain ⟨k, hk, rfl, hu⟩ := hrel
    by_cases hlt : k < n
    · obtain ⟨b, off, rfl, h1⟩ := hr k hlt
      have c0 : wr.cell? ⟨b, off + k * 9, none⟩ = some (.int .i64 (z k 0)) := hu.keeps (h1 0 (by omega))
      have c1 : wr.cell? ⟨b, off + k * 9 + 1, none⟩ = some (.int .i64 (z k 1)) := hu.keeps (h1 1 (by omega))
      have c2 : wr.cell? ⟨b, off + k * 9 + 2, none⟩ = some (.int .i64 (z k 2)) := hu.keeps (h1 2 (by omega))
      have c3 : wr.cell? ⟨b, off + k * 9 + 3, none⟩ = some (.int .i64 (z k 3)) := hu.keeps (h1 3 (by omega))
      have c4 : wr.cell? ⟨b, off + k * 9 + 4, none⟩ = some (.int .i64 (z k 4)) := hu.keeps (h1 4 (by omega))
      have c5 : wr.cell? ⟨b, off + k * 9 + 5, none⟩ = some (.int .i64 (z k 5)) := hu.keeps (h1 5 (by omega))
      have c6 : wr.cell? ⟨b, off + k * 9 + 6, none⟩ = some (.int .i64 (z k 6)) := hu.keeps (h1 6 (by omega))
      have c7 : wr.cell? ⟨b, off + k * 9 + 7, none⟩ = some (.int .i64 (z k 7)) := hu.keeps (h1 7 (by omega))
      have c8 : wr.cell? ⟨b, off + k * 9 + 8, none⟩ = some (.int .i64 (z k 8)) := hu.keeps (h1 8 (by omega))
      have hcall : Calls Try.prog 49 #[objV (z k), .pointer (some ⟨p, 0, none⟩), .pointer (some ⟨q, 0, none⟩)] wr _ := isf_any (z k) p q x y wr (hu.keeps hp) (hu.keeps hq)
      unfold objV at hcall
      clear hr h1
      go_wp2_with (go_at_call 49; refine hcall.mono ?_; rintro e w' ⟨⟨r, rfl⟩, hv⟩)
      · go_ret
        exact ⟨⟨_, rfl⟩, hu.trans hv⟩
      · go_roundw
        case rel => exact ⟨k + 1, by omega, by go_num, hu.trans hv⟩
        case measure => simp [intOf]; omega
    · go_wp2
      go_ret
      exact ⟨⟨_, rfl⟩, hu⟩
theorem contains_any (a : Option Addr) (n cap : Nat) (z : Nat → Nat → Int) (p q : Nat) (x y : Int) (W : World) (hn : n ≤ 9223372036854775807) (hr : Rw 9 W a n fun j t => .int .i64 (z j t))
    (hp : W.cell? ⟨p, 0, none⟩ = some (.int .i64 x)) (hq : W.cell? ⟨q, 0, none⟩ = some (.int .i64 y)) :
    Calls Try.prog 48 #[.slice a n cap, .func (.func 49) #[] #[.pointer (some ⟨p, 0, none⟩), .pointer (some ⟨q, 0, none⟩)]] W fun e w' => AB e ∧ Up W w' := by
  have hcall := index_any a n cap z p q x y W hn hr hp hq
  clear hr
  go_enter Try.func48, Try.ntmps48
  go_wp2_with (go_at_call 69; refine hcall.mono ?_; rintro e w' ⟨⟨r, rfl⟩, hv⟩)
  go_ret
  exact ⟨⟨_, rfl⟩, hv⟩
theorem size_alloc (W : World) (o : Obj) : (W.alloc o).heap.size = W.heap.size + 1 := by
  show (W.heap.push o).size = _
  simp
theorem cell_new' (W : World) (cs : Array Value) (t : TypeId) (k j : Nat) (hk : k = W.heap.size) : (W.alloc (.cells cs t)).cell? ⟨k, j, none⟩ = cs[j]? := by
  subst hk; exact cell_new W cs t j
theorem is_any (A : Array Value) (a : Option Addr) (n cap : Nat) (z : Nat → Nat → Int) (x y : Int) (W : World) (hn : n ≤ 9223372036854775807) (h0 : A[0]? = some (.slice a n cap)) (hr : Rw 9 W a n fun j t => .int .i64 (z j t)) :
    Calls Try.prog 33 #[.agg A, .int .i64 x, .int .i64 y] W fun e w' => AB e ∧ Up W w' := by
  have u1 := Up.alloc W A 32
  have u2 := Up.alloc (W.alloc (.cells A 32)) #[.int .i64 x] 3
  have u3 := Up.alloc ((W.alloc (.cells A 32)).alloc (.cells #[.int .i64 x] 3)) #[.int .i64 y] 3
  have hcall := contains_any a n cap z (W.heap.size + 1) (W.heap.size + 1 + 1) x y _ hn (hr.up ((u1.trans u2).trans u3))
    (u3.keeps ((cell_new' _ _ _ _ _ (by rw [size_alloc])).trans rfl)) ((cell_new' _ _ _ _ _ (by rw [size_alloc, size_alloc])).trans rfl)
  clear hr
  go_enter Try.func33, Try.ntmps33
  go_wp2_with (go_at_call 48; refine hcall.mono ?_; rintro e w' ⟨⟨r, rfl⟩, hv⟩)
  go_ret
  exact ⟨⟨_, rfl⟩, ((u1.trans u2).trans u3).trans hv⟩
end Go.Proofs.AO
