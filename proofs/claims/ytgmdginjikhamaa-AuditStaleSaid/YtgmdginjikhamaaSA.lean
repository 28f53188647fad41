/- Page indices and fields of words. No conditions beside those in its theorems. -/
import Derived.Test.YtgmdginjikhamaaSX5
import Derived.Sort.Walk7
set_option linter.unusedSimpArgs false
namespace Go.Proofs.AO
open Go.RowKit Go.Maps Go.Shelf
theorem up_setCells {W : World} (b : Nat) (hb : W.heap.size ≤ b) : ∀ (vs : List Value) (o : Nat) (w : World), Up W w → Up W (w.setCells b o vs)
  | [], _, _, h => h
  | v :: r, o, w, h => by
    rw [World.setCells]
    refine up_setCells b hb r (o + 1) _ ⟨h.os, h.tape, h.output, ?_, fun k hk => ?_⟩
    · simp only [World.setCell, Array.size_modify]
      exact h.size
    · rw [Below.heap_setCell _ _ _ k (by show k ≠ b; omega)]
      exact h.block k hk
end Go.Proofs.AO
namespace Go.Proofs.AO
open Go.RowKit Go.Maps Go.Shelf
set_option linter.unusedVariables false
set_option linter.unusedSimpArgs false
set_option maxRecDepth 100000
set_option maxHeartbeats 1000000
/-- a page's index on a level -/
def ix (p : Int) (lv : Nat) : Int := if 0 ≤ p ∧ p < 512 then p / ((8 ^ (3 - lv) : Nat) : Int) % 8 else -1
theorem small_f (x n : Int) (W : World) : Calls Try.prog 82 #[.int .i64 x, .int .i64 n] W fun e w' => e = .returned (.bool (decide (0 ≤ x ∧ x < n))) ∧ w' = W := by
  by_cases h1 : 0 ≤ x
  · by_cases h2 : x < n
    · go_enter Try.func82, Try.ntmps82
      go_wp2
      go_ret
      exact ⟨by simp [h1, h2], rfl⟩
    · go_enter Try.func82, Try.ntmps82
      go_wp2
      go_ret
      exact ⟨by simp [h1, h2], rfl⟩
  · go_enter Try.func82, Try.ntmps82
    go_wp2
    go_ret
    refine ⟨?_, rfl⟩
    rw [decide_eq_false (by omega)]
    rfl
theorem ixR (p : Int) (lv : Nat) (hl : lv = 1 ∨ lv = 2 ∨ lv = 3) (W : World) : Calls Try.prog 77 #[.int .i64 p, .int .i64 lv] W fun e w' => e = .returned (.int .i64 (ix p lv)) ∧ w' = W := by
  by_cases h : 0 ≤ p ∧ p < 512
  · have h1 := h.1
    have h2 := h.2
    rcases hl with rfl | rfl | rfl
    all_goals
      (go_enter Try.func77, Try.ntmps77
       go_wp2_with (first | (go_at_call 82; refine (small_f _ _ _).mono ?_; rintro e w' ⟨rfl, rfl⟩))
       all_goals go_ret
       all_goals (refine ⟨?_, rfl⟩; simp only [ix, if_pos h]; go_simp)
       all_goals omega)
  · have hd : decide (0 ≤ p ∧ p < 512) = false := decide_eq_false h
    rcases hl with rfl | rfl | rfl
    all_goals
      (go_enter Try.func77, Try.ntmps77
       go_wp2_with (first | (go_at_call 82; refine (small_f _ _ _).mono ?_; rintro e w' ⟨rfl, rfl⟩; rw [hd]))
       all_goals go_ret
       all_goals (refine ⟨?_, rfl⟩; simp only [ix, if_neg h]; rfl))
theorem ixV (p : Int) (lv : Nat) (hl : lv = 1 ∨ lv = 2 ∨ lv = 3) (W : World) : Calls Try.prog 39 #[.int .i64 p, .int .i64 lv] W fun e w' => e = .returned (.int .i64 (ix p lv)) ∧ w' = W := by
  by_cases h : 0 ≤ p ∧ p < 512
  · have h1 := h.1
    have h2 := h.2
    rcases hl with rfl | rfl | rfl
    · go_enter Try.func39, Try.ntmps39
      go_wp2
      go_loopw [0, 21] (fun x i w' => w' = W ∧ ((i = .int .i64 0 ∧ x = .int .i64 p) ∨ (i = .int .i64 1 ∧ x = .int .i64 (p / 8)) ∨ (i = .int .i64 2 ∧ x = .int .i64 (p / 64)))) (fun _ i _ => 2 - (intOf i).toNat)
      case atStart => exact ⟨rfl, .inl ⟨rfl, rfl⟩⟩
      case round =>
        obtain ⟨rfl, ⟨rfl, rfl⟩ | ⟨rfl, rfl⟩ | ⟨rfl, rfl⟩⟩ := hrel
        · go_wp2
          go_roundw
          case rel => simp
          case measure => decide
        · go_wp2
          go_roundw
          case rel => simp; omega
          case measure => decide
        · go_wp2
          go_ret
          refine ⟨?_, rfl⟩
          simp only [ix, if_pos h]
          show Ending.returned (Value.int .i64 _) = Ending.returned (Value.int .i64 _)
          congr 2
    · go_enter Try.func39, Try.ntmps39
      go_wp2
      go_loopw [0, 21] (fun x i w' => w' = W ∧ ((i = .int .i64 0 ∧ x = .int .i64 p) ∨ (i = .int .i64 1 ∧ x = .int .i64 (p / 8)))) (fun _ i _ => 2 - (intOf i).toNat)
      case atStart => exact ⟨rfl, .inl ⟨rfl, rfl⟩⟩
      case round =>
        obtain ⟨rfl, ⟨rfl, rfl⟩ | ⟨rfl, rfl⟩⟩ := hrel
        · go_wp2
          go_roundw
          case rel => simp
          case measure => decide
        · go_wp2
          go_ret
          refine ⟨?_, rfl⟩
          simp only [ix, if_pos h]
          show Ending.returned (Value.int .i64 _) = Ending.returned (Value.int .i64 _)
          congr 2
    · go_enter Try.func39, Try.ntmps39
      go_wp2
      go_loopw [0, 21] (fun x i w' => w' = W ∧ (i = .int .i64 0 ∧ x = .int .i64 p)) (fun _ i _ => 2 - (intOf i).toNat)
      case atStart => exact ⟨rfl, rfl, rfl⟩
      case round =>
        obtain ⟨rfl, rfl, rfl⟩ := hrel
        go_wp2
        go_ret
        refine ⟨?_, rfl⟩
        simp only [ix, if_pos h]
        show Ending.returned (Value.int .i64 _) = Ending.returned (Value.int .i64 _)
        congr 2
        omega
  · by_cases h1 : p < 0
    · rcases hl with rfl | rfl | rfl
      all_goals
        (go_enter Try.func39, Try.ntmps39
         go_wp2
         all_goals go_ret
         all_goals (refine ⟨?_, rfl⟩; simp only [ix, if_neg h]; rfl))
    · have h2 : ¬ p < 512 := by omega
      rcases hl with rfl | rfl | rfl
      all_goals
        (go_enter Try.func39, Try.ntmps39
         go_wp2
         all_goals go_ret
         all_goals (refine ⟨?_, rfl⟩; simp only [ix, if_neg h]; rfl))
end Go.Proofs.AO
namespace Go.Proofs.AO
open Go.RowKit Go.Maps Go.Shelf Go.Sort
set_option linter.unusedVariables false
set_option linter.unusedSimpArgs false
set_option maxRecDepth 100000
set_option maxHeartbeats 1000000
theorem may_1 (k : Nat) (hk : k < 64) (W : World) : Calls Try.prog 75 #[.int .i64 k, .int .i64 1] W fun e w' => e = .returned (.bool true) ∧ w' = W := by
  have h1 : (k : Int) ≤ 63 := by omega
  have h2 : (k : Int) + 1 ≤ 64 := by omega
  go_enter Try.func75, Try.ntmps75
  go_wp2
  all_goals go_ret
  all_goals exact ⟨by simp [h2], rfl⟩
theorem ones_1 (W : World) : Calls Try.prog 76 #[.int .i64 1] W fun e w' => e = .returned (.int .u64 1) ∧ w' = W := by
  go_enter Try.func76, Try.ntmps76
  go_wp2
  all_goals go_ret
  all_goals exact ⟨rfl, rfl⟩
theorem and1 (m : Nat) (h : m < 2 ^ 64) : bits .and .u64 (m : Int) 1 = ((m % 2 : Nat) : Int) := by
  have := bits_and_u64_nat m 1 h (by decide)
  rw [Nat.and_one_is_mod] at this
  exact this
theorem field_1 (x k : Nat) (hx : x < 2 ^ 64) (hk : k < 64) (W : World) : Calls Try.prog 62 #[.int .u64 x, .int .i64 k, .int .i64 1] W fun e w' => e = .returned (.tuple #[.int .u64 ((x / 2 ^ k % 2 : Nat) : Int), .int .i64 0]) ∧ w' = W := by
  have h1 : (k : Int) ≤ 63 := by omega
  go_enter Try.func62, Try.ntmps62
  go_wp2_with (first
    | (go_at_call 75; refine (may_1 k hk _).mono ?_; rintro e w' ⟨rfl, rfl⟩)
    | (go_at_call 76; refine (ones_1 _).mono ?_; rintro e w' ⟨rfl, rfl⟩))
  all_goals refine bodyPost_ret (results_tmp2 rfl _ _ _) rfl ?_
  all_goals refine ⟨?_, rfl⟩
  have h3 : bits .and .u64 ((x : Int) / 2 ^ k) 1 = ((x / 2 ^ k % 2 : Nat) : Int) := by
    have := and1 (x / 2 ^ k) (Nat.lt_of_le_of_lt (Nat.div_le_self _ _) hx)
    rw [← this]
    congr 1
  rw [← h3]
  rfl
theorem with_bits : ∀ k, k < 6 → ∀ F, F < 2 ^ k → bits .or .u64 (bits .andNot .u64 (F : Nat) (2 ^ k : Nat)) (2 ^ k : Nat) = ((F + 2 ^ k : Nat) : Int) := by decide +kernel
end Go.Proofs.AO
