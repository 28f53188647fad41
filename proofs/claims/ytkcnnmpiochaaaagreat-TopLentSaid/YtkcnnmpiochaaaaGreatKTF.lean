/- TopLent: the facts of numbers that its evaluations want. No conditions beside those in its theorems. -/
import Derived.Test.YtkcnnmpiochaaaaGreatKE10
import Derived.Test.YtkcnnmpiochaaaaGreatKB
set_option linter.unusedVariables false
open Go Eng Go.Proofs Go.RowKit
namespace TopL
open Base
def sg (a0 a1 a2 v u n m o : Int) : Sig := fun i => match i with | 0 => a0 | 1 => a1 | 2 => a2 | 3 => v | 4 => u | 10 => n | 11 => m | 12 => o | _ => 0
def bd (a0 a1 a2 v u n m o : Int) : Nat → Int × Int := fun i => if i = 10 then (0, 511) else if i = 11 then (0, 511) else if i = 12 then (0, 7) else if i = 3 then (0, 18446744073709551615) else if i = 4 then (0, 18446744073709551615) else (sg a0 a1 a2 v u n m o i, sg a0 a1 a2 v u n m o i)
structure Is (v u n m o : Int) : Prop where
  v0 : 0 ≤ v
  v1 : v ≤ 18446744073709551615
  u0 : 0 ≤ u
  u1 : u ≤ 18446744073709551615
  n0 : 0 ≤ n
  n1 : n < 512
  m0 : 0 ≤ m
  m1 : m < 512
  o0 : 0 ≤ o
  o1 : o < 8
theorem hbd {a0 a1 a2 v u n m o : Int} (h : Is v u n m o) : ∀ i, (bd a0 a1 a2 v u n m o i).1 ≤ sg a0 a1 a2 v u n m o i ∧ sg a0 a1 a2 v u n m o i ≤ (bd a0 a1 a2 v u n m o i).2 := by
  obtain ⟨v0, v1, u0, u1, h0, h1, h2, h3, h4, h5⟩ := h
  intro i
  unfold bd
  by_cases e : i = 10
  · subst e; exact ⟨h0, show n ≤ 511 by omega⟩
  · rw [if_neg e]
    by_cases e2 : i = 11
    · subst e2; exact ⟨h2, show m ≤ 511 by omega⟩
    · rw [if_neg e2]
      by_cases e3 : i = 12
      · subst e3; exact ⟨h4, show o ≤ 7 by omega⟩
      · rw [if_neg e3]
        by_cases e4 : i = 3
        · subst e4; exact ⟨v0, v1⟩
        · rw [if_neg e4]
          by_cases e5 : i = 4
          · subst e5; exact ⟨u0, u1⟩
          · rw [if_neg e5]; exact ⟨Int.le_refl _, Int.le_refl _⟩
section
variable {a0 a1 a2 v u n m o : Int}
def k_0 : CF := ⟨.eql, (.conv .i64 (.bin .quo .u64 (.conv .u64 (.bin .add .i64 (.bin .mul .i64 (.lit 64) (.var 10)) (.bin .mul .i64 (.lit 8) (.var 12)))) (.lit 64))), (.conv .i64 (.bin .quo .u64 (.conv .u64 (.bin .add .i64 (.bin .mul .i64 (.lit 64) (.var 10)) (.bin .mul .i64 (.lit 8) (.var 12)))) (.lit 64))), true⟩
theorem c_0 (h : Is v u n m o) : CFok (sg a0 a1 a2 v u n m o) k_0 := by
  refine CFok.ex (hbd h) rfl rfl ?_
  obtain ⟨v0, v1, u0, u1, h0, h1, h2, h3, h4, h5⟩ := h
  show (((((64 * n) + (8 * o)) / 64) : Int) == (((64 * n) + (8 * o)) / 64)) = true
  refine beq_iff_eq.2 ?_
  omega
def k_1 : CF := ⟨.eql, (.conv .i64 (.bin .quo .u64 (.conv .u64 (.bin .add .i64 (.bin .mul .i64 (.lit 64) (.var 11)) (.bin .mul .i64 (.lit 8) (.var 12)))) (.lit 64))), (.conv .i64 (.bin .quo .u64 (.conv .u64 (.bin .add .i64 (.bin .mul .i64 (.lit 64) (.var 11)) (.bin .mul .i64 (.lit 8) (.var 12)))) (.lit 64))), true⟩
theorem c_1 (h : Is v u n m o) : CFok (sg a0 a1 a2 v u n m o) k_1 := by
  refine CFok.ex (hbd h) rfl rfl ?_
  obtain ⟨v0, v1, u0, u1, h0, h1, h2, h3, h4, h5⟩ := h
  show (((((64 * m) + (8 * o)) / 64) : Int) == (((64 * m) + (8 * o)) / 64)) = true
  refine beq_iff_eq.2 ?_
  omega
def k_2 : CF := ⟨.eql, (.conv .i64 (.bin .quo .u64 (.conv .u64 (.bin .add .i64 (.bin .mul .i64 (.lit 64) (.var 11)) (.bin .mul .i64 (.lit 8) (.var 12)))) (.lit 64))), (.conv .i64 (.bin .quo .u64 (.conv .u64 (.bin .mul .i64 (.lit 64) (.var 11))) (.lit 64))), true⟩
theorem c_2 (h : Is v u n m o) : CFok (sg a0 a1 a2 v u n m o) k_2 := by
  refine CFok.ex (hbd h) rfl rfl ?_
  obtain ⟨v0, v1, u0, u1, h0, h1, h2, h3, h4, h5⟩ := h
  show (((((64 * m) + (8 * o)) / 64) : Int) == ((64 * m) / 64)) = true
  refine beq_iff_eq.2 ?_
  omega
def k_3 : CF := ⟨.eql, (.conv .i64 (.bin .quo .u64 (.conv .u64 (.bin .mul .i64 (.lit 64) (.var 10))) (.lit 64))), (.conv .i64 (.bin .quo .u64 (.conv .u64 (.bin .mul .i64 (.lit 64) (.var 10))) (.lit 64))), true⟩
theorem c_3 (h : Is v u n m o) : CFok (sg a0 a1 a2 v u n m o) k_3 := by
  refine CFok.ex (hbd h) rfl rfl ?_
  obtain ⟨v0, v1, u0, u1, h0, h1, h2, h3, h4, h5⟩ := h
  show ((((64 * n) / 64) : Int) == ((64 * n) / 64)) = true
  refine beq_iff_eq.2 ?_
  omega
def k_4 : CF := ⟨.eql, (.conv .i64 (.bin .quo .u64 (.conv .u64 (.bin .mul .i64 (.lit 64) (.var 11))) (.lit 64))), (.conv .i64 (.bin .quo .u64 (.conv .u64 (.bin .mul .i64 (.lit 64) (.var 11))) (.lit 64))), true⟩
theorem c_4 (h : Is v u n m o) : CFok (sg a0 a1 a2 v u n m o) k_4 := by
  refine CFok.ex (hbd h) rfl rfl ?_
  obtain ⟨v0, v1, u0, u1, h0, h1, h2, h3, h4, h5⟩ := h
  show ((((64 * m) / 64) : Int) == ((64 * m) / 64)) = true
  refine beq_iff_eq.2 ?_
  omega
def k_5 : CF := ⟨.eql, (.conv .u64 (.bin .add .i64 (.lit 1024) (.bin .mul .i64 (.lit 8) (.bin .rem .i64 (.conv .i64 (.bin .quo .u64 (.conv .u64 (.bin .mul .i64 (.lit 64) (.var 10))) (.lit 64))) (.lit 8))))), (.conv .u64 (.bin .add .i64 (.lit 1024) (.bin .mul .i64 (.lit 8) (.bin .rem .i64 (.conv .i64 (.bin .quo .u64 (.conv .u64 (.bin .add .i64 (.bin .mul .i64 (.lit 64) (.var 10)) (.bin .mul .i64 (.lit 8) (.var 12)))) (.lit 64))) (.lit 8))))), true⟩
theorem c_5 (h : Is v u n m o) : CFok (sg a0 a1 a2 v u n m o) k_5 := by
  refine CFok.ex (hbd h) rfl rfl ?_
  obtain ⟨v0, v1, u0, u1, h0, h1, h2, h3, h4, h5⟩ := h
  show (((1024 + (8 * (((64 * n) / 64) % 8))) : Int) == (1024 + (8 * ((((64 * n) + (8 * o)) / 64) % 8)))) = true
  refine beq_iff_eq.2 ?_
  omega
def k_6 : CF := ⟨.eql, (.conv .u64 (.bin .add .i64 (.lit 1088) (.conv .i64 (.bin .and .u64 (.bin .shr .u64 (.conv .u64 (.bin .add .i64 (.bin .mul .i64 (.lit 64) (.var 10)) (.bin .mul .i64 (.lit 8) (.var 12)))) (.lit 0)) (.lit 63))))), (.conv .u64 (.bin .add .i64 (.lit 1088) (.conv .i64 (.bin .and .u64 (.bin .shr .u64 (.conv .u64 (.bin .add .i64 (.bin .mul .i64 (.lit 64) (.var 11)) (.bin .mul .i64 (.lit 8) (.var 12)))) (.lit 0)) (.lit 63))))), true⟩
theorem c_6 (h : Is v u n m o) : CFok (sg a0 a1 a2 v u n m o) k_6 := by
  refine CFok.ex (hbd h) rfl rfl ?_
  obtain ⟨v0, v1, u0, u1, h0, h1, h2, h3, h4, h5⟩ := h
  show (((1088 + ((((64 * n) + (8 * o)) / 1) % (63 + 1))) : Int) == (1088 + ((((64 * m) + (8 * o)) / 1) % (63 + 1)))) = true
  refine beq_iff_eq.2 ?_
  omega
def k_7 : CF := ⟨.eql, (.conv .u64 (.bin .add .i64 (.lit 1088) (.conv .i64 (.bin .and .u64 (.bin .shr .u64 (.conv .u64 (.bin .add .i64 (.bin .mul .i64 (.lit 64) (.var 11)) (.bin .mul .i64 (.lit 8) (.var 12)))) (.lit 0)) (.lit 63))))), (.conv .u64 (.bin .add .i64 (.lit 1088) (.conv .i64 (.bin .and .u64 (.bin .shr .u64 (.conv .u64 (.bin .add .i64 (.bin .mul .i64 (.lit 64) (.var 10)) (.bin .mul .i64 (.lit 8) (.var 12)))) (.lit 0)) (.lit 63))))), true⟩
theorem c_7 (h : Is v u n m o) : CFok (sg a0 a1 a2 v u n m o) k_7 := by
  refine CFok.ex (hbd h) rfl rfl ?_
  obtain ⟨v0, v1, u0, u1, h0, h1, h2, h3, h4, h5⟩ := h
  show (((1088 + ((((64 * m) + (8 * o)) / 1) % (63 + 1))) : Int) == (1088 + ((((64 * n) + (8 * o)) / 1) % (63 + 1)))) = true
  refine beq_iff_eq.2 ?_
  omega
def k_8 : CF := ⟨.eql, (.conv .u64 (.bin .add .i64 (.lit 2496) (.bin .mul .i64 (.lit 8) (.bin .rem .i64 (.bin .quo .i64 (.conv .i64 (.bin .quo .u64 (.conv .u64 (.bin .mul .i64 (.lit 64) (.var 11))) (.lit 64))) (.lit 8)) (.lit 8))))), (.conv .u64 (.bin .add .i64 (.lit 2496) (.bin .mul .i64 (.lit 8) (.bin .rem .i64 (.bin .quo .i64 (.conv .i64 (.bin .quo .u64 (.conv .u64 (.bin .add .i64 (.bin .mul .i64 (.lit 64) (.var 11)) (.bin .mul .i64 (.lit 8) (.var 12)))) (.lit 64))) (.lit 8)) (.lit 8))))), true⟩
theorem c_8 (h : Is v u n m o) : CFok (sg a0 a1 a2 v u n m o) k_8 := by
  refine CFok.ex (hbd h) rfl rfl ?_
  obtain ⟨v0, v1, u0, u1, h0, h1, h2, h3, h4, h5⟩ := h
  show (((2496 + (8 * ((((64 * m) / 64) / 8) % 8))) : Int) == (2496 + (8 * (((((64 * m) + (8 * o)) / 64) / 8) % 8)))) = true
  refine beq_iff_eq.2 ?_
  omega
def k_9 : CF := ⟨.eql, (.conv .u64 (.bin .add .i64 (.lit 2496) (.bin .mul .i64 (.lit 8) (.bin .rem .i64 (.bin .quo .i64 (.conv .i64 (.bin .quo .u64 (.conv .u64 (.bin .mul .i64 (.lit 64) (.var 11))) (.lit 64))) (.lit 8)) (.lit 8))))), (.conv .u64 (.bin .add .i64 (.lit 2496) (.bin .mul .i64 (.lit 8) (.bin .rem .i64 (.bin .quo .i64 (.var 11) (.lit 8)) (.lit 8))))), true⟩
theorem c_9 (h : Is v u n m o) : CFok (sg a0 a1 a2 v u n m o) k_9 := by
  refine CFok.ex (hbd h) rfl rfl ?_
  obtain ⟨v0, v1, u0, u1, h0, h1, h2, h3, h4, h5⟩ := h
  show (((2496 + (8 * ((((64 * m) / 64) / 8) % 8))) : Int) == (2496 + (8 * ((m / 8) % 8)))) = true
  refine beq_iff_eq.2 ?_
  omega
def k_10 : CF := ⟨.eql, (.conv .u64 (.bin .add .i64 (.lit 2560) (.bin .mul .i64 (.lit 8) (.bin .rem .i64 (.conv .i64 (.bin .quo .u64 (.conv .u64 (.bin .mul .i64 (.lit 64) (.var 11))) (.lit 64))) (.lit 8))))), (.conv .u64 (.bin .add .i64 (.lit 2560) (.bin .mul .i64 (.lit 8) (.bin .rem .i64 (.conv .i64 (.bin .quo .u64 (.conv .u64 (.bin .add .i64 (.bin .mul .i64 (.lit 64) (.var 11)) (.bin .mul .i64 (.lit 8) (.var 12)))) (.lit 64))) (.lit 8))))), true⟩
theorem c_10 (h : Is v u n m o) : CFok (sg a0 a1 a2 v u n m o) k_10 := by
  refine CFok.ex (hbd h) rfl rfl ?_
  obtain ⟨v0, v1, u0, u1, h0, h1, h2, h3, h4, h5⟩ := h
  show (((2560 + (8 * (((64 * m) / 64) % 8))) : Int) == (2560 + (8 * ((((64 * m) + (8 * o)) / 64) % 8)))) = true
  refine beq_iff_eq.2 ?_
  omega
def k_11 : CF := ⟨.eql, (.conv .u64 (.bin .add .i64 (.lit 2560) (.bin .mul .i64 (.lit 8) (.bin .rem .i64 (.conv .i64 (.bin .quo .u64 (.conv .u64 (.bin .mul .i64 (.lit 64) (.var 11))) (.lit 64))) (.lit 8))))), (.conv .u64 (.bin .add .i64 (.lit 2560) (.bin .mul .i64 (.lit 8) (.bin .rem .i64 (.var 11) (.lit 8))))), true⟩
theorem c_11 (h : Is v u n m o) : CFok (sg a0 a1 a2 v u n m o) k_11 := by
  refine CFok.ex (hbd h) rfl rfl ?_
  obtain ⟨v0, v1, u0, u1, h0, h1, h2, h3, h4, h5⟩ := h
  show (((2560 + (8 * (((64 * m) / 64) % 8))) : Int) == (2560 + (8 * (m % 8)))) = true
  refine beq_iff_eq.2 ?_
  omega
def k_12 : CF := ⟨.eql, (.conv .u64 (.bin .add .i64 (.lit 320) (.bin .mul .i64 (.lit 8) (.bin .rem .i64 (.bin .quo .i64 (.bin .quo .i64 (.conv .i64 (.bin .quo .u64 (.conv .u64 (.bin .mul .i64 (.lit 64) (.var 10))) (.lit 64))) (.lit 8)) (.lit 8)) (.lit 8))))), (.conv .u64 (.bin .add .i64 (.lit 320) (.bin .mul .i64 (.lit 8) (.bin .rem .i64 (.bin .quo .i64 (.bin .quo .i64 (.conv .i64 (.bin .quo .u64 (.conv .u64 (.bin .add .i64 (.bin .mul .i64 (.lit 64) (.var 10)) (.bin .mul .i64 (.lit 8) (.var 12)))) (.lit 64))) (.lit 8)) (.lit 8)) (.lit 8))))), true⟩
theorem c_12 (h : Is v u n m o) : CFok (sg a0 a1 a2 v u n m o) k_12 := by
  refine CFok.ex (hbd h) rfl rfl ?_
  obtain ⟨v0, v1, u0, u1, h0, h1, h2, h3, h4, h5⟩ := h
  show (((320 + (8 * (((((64 * n) / 64) / 8) / 8) % 8))) : Int) == (320 + (8 * ((((((64 * n) + (8 * o)) / 64) / 8) / 8) % 8)))) = true
  refine beq_iff_eq.2 ?_
  omega
def k_13 : CF := ⟨.eql, (.conv .u64 (.bin .add .i64 (.lit 768) (.bin .mul .i64 (.lit 8) (.bin .rem .i64 (.bin .quo .i64 (.bin .quo .i64 (.conv .i64 (.bin .quo .u64 (.conv .u64 (.bin .mul .i64 (.lit 64) (.var 11))) (.lit 64))) (.lit 8)) (.lit 8)) (.lit 8))))), (.conv .u64 (.bin .add .i64 (.lit 768) (.bin .mul .i64 (.lit 8) (.bin .rem .i64 (.bin .quo .i64 (.bin .quo .i64 (.conv .i64 (.bin .quo .u64 (.conv .u64 (.bin .add .i64 (.bin .mul .i64 (.lit 64) (.var 11)) (.bin .mul .i64 (.lit 8) (.var 12)))) (.lit 64))) (.lit 8)) (.lit 8)) (.lit 8))))), true⟩
theorem c_13 (h : Is v u n m o) : CFok (sg a0 a1 a2 v u n m o) k_13 := by
  refine CFok.ex (hbd h) rfl rfl ?_
  obtain ⟨v0, v1, u0, u1, h0, h1, h2, h3, h4, h5⟩ := h
  show (((768 + (8 * (((((64 * m) / 64) / 8) / 8) % 8))) : Int) == (768 + (8 * ((((((64 * m) + (8 * o)) / 64) / 8) / 8) % 8)))) = true
  refine beq_iff_eq.2 ?_
  omega
def k_14 : CF := ⟨.eql, (.conv .u64 (.bin .add .i64 (.lit 768) (.bin .mul .i64 (.lit 8) (.bin .rem .i64 (.bin .quo .i64 (.bin .quo .i64 (.conv .i64 (.bin .quo .u64 (.conv .u64 (.bin .mul .i64 (.lit 64) (.var 11))) (.lit 64))) (.lit 8)) (.lit 8)) (.lit 8))))), (.conv .u64 (.bin .add .i64 (.lit 768) (.bin .mul .i64 (.lit 8) (.bin .rem .i64 (.bin .quo .i64 (.bin .quo .i64 (.var 11) (.lit 8)) (.lit 8)) (.lit 8))))), true⟩
theorem c_14 (h : Is v u n m o) : CFok (sg a0 a1 a2 v u n m o) k_14 := by
  refine CFok.ex (hbd h) rfl rfl ?_
  obtain ⟨v0, v1, u0, u1, h0, h1, h2, h3, h4, h5⟩ := h
  show (((768 + (8 * (((((64 * m) / 64) / 8) / 8) % 8))) : Int) == (768 + (8 * (((m / 8) / 8) % 8)))) = true
  refine beq_iff_eq.2 ?_
  omega
def k_15 : CF := ⟨.eql, (.conv .u64 (.bin .add .i64 (.lit 960) (.bin .mul .i64 (.lit 8) (.bin .rem .i64 (.bin .quo .i64 (.conv .i64 (.bin .quo .u64 (.conv .u64 (.bin .mul .i64 (.lit 64) (.var 10))) (.lit 64))) (.lit 8)) (.lit 8))))), (.conv .u64 (.bin .add .i64 (.lit 960) (.bin .mul .i64 (.lit 8) (.bin .rem .i64 (.bin .quo .i64 (.conv .i64 (.bin .quo .u64 (.conv .u64 (.bin .add .i64 (.bin .mul .i64 (.lit 64) (.var 10)) (.bin .mul .i64 (.lit 8) (.var 12)))) (.lit 64))) (.lit 8)) (.lit 8))))), true⟩
theorem c_15 (h : Is v u n m o) : CFok (sg a0 a1 a2 v u n m o) k_15 := by
  refine CFok.ex (hbd h) rfl rfl ?_
  obtain ⟨v0, v1, u0, u1, h0, h1, h2, h3, h4, h5⟩ := h
  show (((960 + (8 * ((((64 * n) / 64) / 8) % 8))) : Int) == (960 + (8 * (((((64 * n) + (8 * o)) / 64) / 8) % 8)))) = true
  refine beq_iff_eq.2 ?_
  omega
def k_16 : CF := ⟨.eql, (.conv .u64 (.bin .mul .i64 (.lit 64) (.var 10))), (.conv .u64 (.bin .mul .i64 (.lit 64) (.var 10))), true⟩
theorem c_16 (h : Is v u n m o) : CFok (sg a0 a1 a2 v u n m o) k_16 := by
  refine CFok.ex (hbd h) rfl rfl ?_
  obtain ⟨v0, v1, u0, u1, h0, h1, h2, h3, h4, h5⟩ := h
  show (((64 * n) : Int) == (64 * n)) = true
  refine beq_iff_eq.2 ?_
  omega
def k_17 : CF := ⟨.eql, (.conv .u64 (.bin .mul .i64 (.lit 64) (.var 11))), (.conv .u64 (.bin .mul .i64 (.lit 64) (.var 11))), true⟩
theorem c_17 (h : Is v u n m o) : CFok (sg a0 a1 a2 v u n m o) k_17 := by
  refine CFok.ex (hbd h) rfl rfl ?_
  obtain ⟨v0, v1, u0, u1, h0, h1, h2, h3, h4, h5⟩ := h
  show (((64 * m) : Int) == (64 * m)) = true
  refine beq_iff_eq.2 ?_
  omega
def k_18 : CF := ⟨.eql, (.var 3), (.var 3), true⟩
theorem c_18 (h : Is v u n m o) : CFok (sg a0 a1 a2 v u n m o) k_18 := by
  show cmpDen .eql _ _ = true
  simp [cmpDen, k_18]
def k_19 : CF := ⟨.eql, (.var 4), (.var 4), true⟩
theorem c_19 (h : Is v u n m o) : CFok (sg a0 a1 a2 v u n m o) k_19 := by
  show cmpDen .eql _ _ = true
  simp [cmpDen, k_19]
def k_20 : CF := ⟨.geq, (.conv .i64 (.bin .quo .u64 (.conv .u64 (.bin .add .i64 (.bin .mul .i64 (.lit 64) (.var 10)) (.bin .mul .i64 (.lit 8) (.var 12)))) (.lit 64))), (.lit 512), false⟩
theorem c_20 (h : Is v u n m o) : CFok (sg a0 a1 a2 v u n m o) k_20 := by
  refine CFok.ex (hbd h) rfl rfl ?_
  obtain ⟨v0, v1, u0, u1, h0, h1, h2, h3, h4, h5⟩ := h
  show decide (((((64 * n) + (8 * o)) / 64) : Int) ≥ 512) = false
  refine decide_eq_false ?_
  omega
def k_21 : CF := ⟨.geq, (.conv .i64 (.bin .quo .u64 (.conv .u64 (.bin .add .i64 (.bin .mul .i64 (.lit 64) (.var 11)) (.bin .mul .i64 (.lit 8) (.var 12)))) (.lit 64))), (.lit 512), false⟩
theorem c_21 (h : Is v u n m o) : CFok (sg a0 a1 a2 v u n m o) k_21 := by
  refine CFok.ex (hbd h) rfl rfl ?_
  obtain ⟨v0, v1, u0, u1, h0, h1, h2, h3, h4, h5⟩ := h
  show decide (((((64 * m) + (8 * o)) / 64) : Int) ≥ 512) = false
  refine decide_eq_false ?_
  omega
def k_22 : CF := ⟨.geq, (.conv .i64 (.bin .quo .u64 (.conv .u64 (.bin .mul .i64 (.lit 64) (.var 10))) (.lit 64))), (.lit 0), true⟩
theorem c_22 (h : Is v u n m o) : CFok (sg a0 a1 a2 v u n m o) k_22 := by
  refine CFok.ex (hbd h) rfl rfl ?_
  obtain ⟨v0, v1, u0, u1, h0, h1, h2, h3, h4, h5⟩ := h
  show decide ((((64 * n) / 64) : Int) ≥ 0) = true
  refine decide_eq_true ?_
  omega
def k_23 : CF := ⟨.geq, (.conv .i64 (.bin .quo .u64 (.conv .u64 (.bin .mul .i64 (.lit 64) (.var 10))) (.lit 64))), (.lit 512), false⟩
theorem c_23 (h : Is v u n m o) : CFok (sg a0 a1 a2 v u n m o) k_23 := by
  refine CFok.ex (hbd h) rfl rfl ?_
  obtain ⟨v0, v1, u0, u1, h0, h1, h2, h3, h4, h5⟩ := h
  show decide ((((64 * n) / 64) : Int) ≥ 512) = false
  refine decide_eq_false ?_
  omega
def k_24 : CF := ⟨.geq, (.conv .i64 (.bin .quo .u64 (.conv .u64 (.bin .mul .i64 (.lit 64) (.var 11))) (.lit 64))), (.lit 0), true⟩
theorem c_24 (h : Is v u n m o) : CFok (sg a0 a1 a2 v u n m o) k_24 := by
  refine CFok.ex (hbd h) rfl rfl ?_
  obtain ⟨v0, v1, u0, u1, h0, h1, h2, h3, h4, h5⟩ := h
  show decide ((((64 * m) / 64) : Int) ≥ 0) = true
  refine decide_eq_true ?_
  omega
def k_25 : CF := ⟨.geq, (.conv .i64 (.bin .quo .u64 (.conv .u64 (.bin .mul .i64 (.lit 64) (.var 11))) (.lit 64))), (.lit 512), false⟩
theorem c_25 (h : Is v u n m o) : CFok (sg a0 a1 a2 v u n m o) k_25 := by
  refine CFok.ex (hbd h) rfl rfl ?_
  obtain ⟨v0, v1, u0, u1, h0, h1, h2, h3, h4, h5⟩ := h
  show decide ((((64 * m) / 64) : Int) ≥ 512) = false
  refine decide_eq_false ?_
  omega
def k_26 : CF := ⟨.geq, (.conv .u64 (.bin .add .i64 (.bin .mul .i64 (.lit 64) (.var 10)) (.bin .mul .i64 (.lit 8) (.var 12)))), (.lit 32768), false⟩
theorem c_26 (h : Is v u n m o) : CFok (sg a0 a1 a2 v u n m o) k_26 := by
  refine CFok.ex (hbd h) rfl rfl ?_
  obtain ⟨v0, v1, u0, u1, h0, h1, h2, h3, h4, h5⟩ := h
  show decide ((((64 * n) + (8 * o)) : Int) ≥ 32768) = false
  refine decide_eq_false ?_
  omega
def k_27 : CF := ⟨.geq, (.conv .u64 (.bin .add .i64 (.bin .mul .i64 (.lit 64) (.var 11)) (.bin .mul .i64 (.lit 8) (.var 12)))), (.lit 32768), false⟩
theorem c_27 (h : Is v u n m o) : CFok (sg a0 a1 a2 v u n m o) k_27 := by
  refine CFok.ex (hbd h) rfl rfl ?_
  obtain ⟨v0, v1, u0, u1, h0, h1, h2, h3, h4, h5⟩ := h
  show decide ((((64 * m) + (8 * o)) : Int) ≥ 32768) = false
  refine decide_eq_false ?_
  omega
def k_28 : CF := ⟨.geq, (.conv .u64 (.bin .mul .i64 (.lit 64) (.var 10))), (.lit 32768), false⟩
theorem c_28 (h : Is v u n m o) : CFok (sg a0 a1 a2 v u n m o) k_28 := by
  refine CFok.ex (hbd h) rfl rfl ?_
  obtain ⟨v0, v1, u0, u1, h0, h1, h2, h3, h4, h5⟩ := h
  show decide (((64 * n) : Int) ≥ 32768) = false
  refine decide_eq_false ?_
  omega
def k_29 : CF := ⟨.geq, (.conv .u64 (.bin .mul .i64 (.lit 64) (.var 11))), (.lit 32768), false⟩
theorem c_29 (h : Is v u n m o) : CFok (sg a0 a1 a2 v u n m o) k_29 := by
  refine CFok.ex (hbd h) rfl rfl ?_
  obtain ⟨v0, v1, u0, u1, h0, h1, h2, h3, h4, h5⟩ := h
  show decide (((64 * m) : Int) ≥ 32768) = false
  refine decide_eq_false ?_
  omega
def k_30 : CF := ⟨.geq, (.var 11), (.lit 512), false⟩
theorem c_30 (h : Is v u n m o) : CFok (sg a0 a1 a2 v u n m o) k_30 := by
  refine CFok.ex (hbd h) rfl rfl ?_
  obtain ⟨v0, v1, u0, u1, h0, h1, h2, h3, h4, h5⟩ := h
  show decide ((m : Int) ≥ 512) = false
  refine decide_eq_false ?_
  omega
def k_31 : CF := ⟨.gtr, (.conv .u64 (.bin .mul .i64 (.lit 64) (.var 10))), (.lit 18446744073709551615), false⟩
theorem c_31 (h : Is v u n m o) : CFok (sg a0 a1 a2 v u n m o) k_31 := by
  refine CFok.ex (hbd h) rfl rfl ?_
  obtain ⟨v0, v1, u0, u1, h0, h1, h2, h3, h4, h5⟩ := h
  show decide (((64 * n) : Int) > 18446744073709551615) = false
  refine decide_eq_false ?_
  omega
def k_32 : CF := ⟨.gtr, (.conv .u64 (.bin .mul .i64 (.lit 64) (.var 11))), (.lit 18446744073709551615), false⟩
theorem c_32 (h : Is v u n m o) : CFok (sg a0 a1 a2 v u n m o) k_32 := by
  refine CFok.ex (hbd h) rfl rfl ?_
  obtain ⟨v0, v1, u0, u1, h0, h1, h2, h3, h4, h5⟩ := h
  show decide (((64 * m) : Int) > 18446744073709551615) = false
  refine decide_eq_false ?_
  omega
def k_33 : CF := ⟨.gtr, (.var 3), (.lit 18446744073709551615), false⟩
theorem c_33 (h : Is v u n m o) : CFok (sg a0 a1 a2 v u n m o) k_33 := by
  refine CFok.ex (hbd h) rfl rfl ?_
  obtain ⟨v0, v1, u0, u1, h0, h1, h2, h3, h4, h5⟩ := h
  show decide ((v : Int) > 18446744073709551615) = false
  refine decide_eq_false ?_
  omega
def k_34 : CF := ⟨.leq, (.conv .i64 (.bin .quo .u64 (.conv .u64 (.bin .mul .i64 (.lit 64) (.var 10))) (.lit 64))), (.lit 511), true⟩
theorem c_34 (h : Is v u n m o) : CFok (sg a0 a1 a2 v u n m o) k_34 := by
  refine CFok.ex (hbd h) rfl rfl ?_
  obtain ⟨v0, v1, u0, u1, h0, h1, h2, h3, h4, h5⟩ := h
  show decide ((((64 * n) / 64) : Int) ≤ 511) = true
  refine decide_eq_true ?_
  omega
def k_35 : CF := ⟨.leq, (.conv .i64 (.bin .quo .u64 (.conv .u64 (.bin .mul .i64 (.lit 64) (.var 11))) (.lit 64))), (.lit 511), true⟩
theorem c_35 (h : Is v u n m o) : CFok (sg a0 a1 a2 v u n m o) k_35 := by
  refine CFok.ex (hbd h) rfl rfl ?_
  obtain ⟨v0, v1, u0, u1, h0, h1, h2, h3, h4, h5⟩ := h
  show decide ((((64 * m) / 64) : Int) ≤ 511) = true
  refine decide_eq_true ?_
  omega
def k_36 : CF := ⟨.lss, (.conv .i64 (.bin .quo .u64 (.conv .u64 (.bin .add .i64 (.bin .mul .i64 (.lit 64) (.var 10)) (.bin .mul .i64 (.lit 8) (.var 12)))) (.lit 64))), (.lit 0), false⟩
theorem c_36 (h : Is v u n m o) : CFok (sg a0 a1 a2 v u n m o) k_36 := by
  refine CFok.ex (hbd h) rfl rfl ?_
  obtain ⟨v0, v1, u0, u1, h0, h1, h2, h3, h4, h5⟩ := h
  show decide (((((64 * n) + (8 * o)) / 64) : Int) < 0) = false
  refine decide_eq_false ?_
  omega
def k_37 : CF := ⟨.lss, (.conv .i64 (.bin .quo .u64 (.conv .u64 (.bin .add .i64 (.bin .mul .i64 (.lit 64) (.var 11)) (.bin .mul .i64 (.lit 8) (.var 12)))) (.lit 64))), (.lit 0), false⟩
theorem c_37 (h : Is v u n m o) : CFok (sg a0 a1 a2 v u n m o) k_37 := by
  refine CFok.ex (hbd h) rfl rfl ?_
  obtain ⟨v0, v1, u0, u1, h0, h1, h2, h3, h4, h5⟩ := h
  show decide (((((64 * m) + (8 * o)) / 64) : Int) < 0) = false
  refine decide_eq_false ?_
  omega
def k_38 : CF := ⟨.lss, (.conv .i64 (.bin .quo .u64 (.conv .u64 (.bin .mul .i64 (.lit 64) (.var 10))) (.lit 64))), (.lit 0), false⟩
theorem c_38 (h : Is v u n m o) : CFok (sg a0 a1 a2 v u n m o) k_38 := by
  refine CFok.ex (hbd h) rfl rfl ?_
  obtain ⟨v0, v1, u0, u1, h0, h1, h2, h3, h4, h5⟩ := h
  show decide ((((64 * n) / 64) : Int) < 0) = false
  refine decide_eq_false ?_
  omega
def k_39 : CF := ⟨.lss, (.conv .i64 (.bin .quo .u64 (.conv .u64 (.bin .mul .i64 (.lit 64) (.var 11))) (.lit 64))), (.lit 0), false⟩
theorem c_39 (h : Is v u n m o) : CFok (sg a0 a1 a2 v u n m o) k_39 := by
  refine CFok.ex (hbd h) rfl rfl ?_
  obtain ⟨v0, v1, u0, u1, h0, h1, h2, h3, h4, h5⟩ := h
  show decide ((((64 * m) / 64) : Int) < 0) = false
  refine decide_eq_false ?_
  omega
def k_40 : CF := ⟨.lss, (.conv .u64 (.bin .mul .i64 (.lit 64) (.var 10))), (.lit 0), false⟩
theorem c_40 (h : Is v u n m o) : CFok (sg a0 a1 a2 v u n m o) k_40 := by
  refine CFok.ex (hbd h) rfl rfl ?_
  obtain ⟨v0, v1, u0, u1, h0, h1, h2, h3, h4, h5⟩ := h
  show decide (((64 * n) : Int) < 0) = false
  refine decide_eq_false ?_
  omega
def k_41 : CF := ⟨.lss, (.conv .u64 (.bin .mul .i64 (.lit 64) (.var 11))), (.lit 0), false⟩
theorem c_41 (h : Is v u n m o) : CFok (sg a0 a1 a2 v u n m o) k_41 := by
  refine CFok.ex (hbd h) rfl rfl ?_
  obtain ⟨v0, v1, u0, u1, h0, h1, h2, h3, h4, h5⟩ := h
  show decide (((64 * m) : Int) < 0) = false
  refine decide_eq_false ?_
  omega
def k_42 : CF := ⟨.lss, (.var 11), (.lit 0), false⟩
theorem c_42 (h : Is v u n m o) : CFok (sg a0 a1 a2 v u n m o) k_42 := by
  refine CFok.ex (hbd h) rfl rfl ?_
  obtain ⟨v0, v1, u0, u1, h0, h1, h2, h3, h4, h5⟩ := h
  show decide ((m : Int) < 0) = false
  refine decide_eq_false ?_
  omega
def k_43 : CF := ⟨.lss, (.var 3), (.lit 0), false⟩
theorem c_43 (h : Is v u n m o) : CFok (sg a0 a1 a2 v u n m o) k_43 := by
  refine CFok.ex (hbd h) rfl rfl ?_
  obtain ⟨v0, v1, u0, u1, h0, h1, h2, h3, h4, h5⟩ := h
  show decide ((v : Int) < 0) = false
  refine decide_eq_false ?_
  omega
def k_44 : CF := ⟨.neq, (.bin .rem .u64 (.conv .u64 (.bin .add .i64 (.bin .mul .i64 (.lit 64) (.var 10)) (.bin .mul .i64 (.lit 8) (.var 12)))) (.lit 8)), (.lit 0), false⟩
theorem c_44 (h : Is v u n m o) : CFok (sg a0 a1 a2 v u n m o) k_44 := by
  refine CFok.ex (hbd h) rfl rfl ?_
  obtain ⟨v0, v1, u0, u1, h0, h1, h2, h3, h4, h5⟩ := h
  show (((((64 * n) + (8 * o)) % 8) : Int) != 0) = false
  refine bne_eq_false_iff_eq.2 ?_
  omega
def k_45 : CF := ⟨.neq, (.bin .rem .u64 (.conv .u64 (.bin .add .i64 (.bin .mul .i64 (.lit 64) (.var 11)) (.bin .mul .i64 (.lit 8) (.var 12)))) (.lit 8)), (.lit 0), false⟩
theorem c_45 (h : Is v u n m o) : CFok (sg a0 a1 a2 v u n m o) k_45 := by
  refine CFok.ex (hbd h) rfl rfl ?_
  obtain ⟨v0, v1, u0, u1, h0, h1, h2, h3, h4, h5⟩ := h
  show (((((64 * m) + (8 * o)) % 8) : Int) != 0) = false
  refine bne_eq_false_iff_eq.2 ?_
  omega
def k_46 : CF := ⟨.neq, (.bin .rem .u64 (.conv .u64 (.bin .mul .i64 (.lit 64) (.var 10))) (.lit 64)), (.lit 0), false⟩
theorem c_46 (h : Is v u n m o) : CFok (sg a0 a1 a2 v u n m o) k_46 := by
  refine CFok.ex (hbd h) rfl rfl ?_
  obtain ⟨v0, v1, u0, u1, h0, h1, h2, h3, h4, h5⟩ := h
  show ((((64 * n) % 64) : Int) != 0) = false
  refine bne_eq_false_iff_eq.2 ?_
  omega
def k_47 : CF := ⟨.neq, (.bin .rem .u64 (.conv .u64 (.bin .mul .i64 (.lit 64) (.var 11))) (.lit 64)), (.lit 0), false⟩
theorem c_47 (h : Is v u n m o) : CFok (sg a0 a1 a2 v u n m o) k_47 := by
  refine CFok.ex (hbd h) rfl rfl ?_
  obtain ⟨v0, v1, u0, u1, h0, h1, h2, h3, h4, h5⟩ := h
  show ((((64 * m) % 64) : Int) != 0) = false
  refine bne_eq_false_iff_eq.2 ?_
  omega
def k_48 : CF := ⟨.neq, (.var 3), (.var 3), false⟩
theorem c_48 (h : Is v u n m o) : CFok (sg a0 a1 a2 v u n m o) k_48 := by
  show cmpDen .neq _ _ = false
  simp [cmpDen, k_48]
def m_0 : NF := ⟨(.bin .quo .u64 (.conv .u64 (.bin .add .i64 (.lit 1024) (.bin .mul .i64 (.lit 8) (.bin .rem .i64 (.conv .i64 (.bin .quo .u64 (.conv .u64 (.bin .add .i64 (.bin .mul .i64 (.lit 64) (.var 10)) (.bin .mul .i64 (.lit 8) (.var 12)))) (.lit 64))) (.lit 8))))) (.lit 64)), 16⟩
theorem n_0 (h : Is v u n m o) : NFok (sg a0 a1 a2 v u n m o) m_0 := by
  refine NFok.ex (hbd h) rfl ?_
  obtain ⟨v0, v1, u0, u1, h0, h1, h2, h3, h4, h5⟩ := h
  show (((1024 + (8 * ((((64 * n) + (8 * o)) / 64) % 8))) / 64) : Int) = 16
  omega
def m_1 : NF := ⟨(.bin .quo .u64 (.conv .u64 (.bin .add .i64 (.lit 1024) (.bin .mul .i64 (.lit 8) (.bin .rem .i64 (.conv .i64 (.bin .quo .u64 (.conv .u64 (.bin .mul .i64 (.lit 64) (.var 10))) (.lit 64))) (.lit 8))))) (.lit 64)), 16⟩
theorem n_1 (h : Is v u n m o) : NFok (sg a0 a1 a2 v u n m o) m_1 := by
  refine NFok.ex (hbd h) rfl ?_
  obtain ⟨v0, v1, u0, u1, h0, h1, h2, h3, h4, h5⟩ := h
  show (((1024 + (8 * (((64 * n) / 64) % 8))) / 64) : Int) = 16
  omega
def m_2 : NF := ⟨(.bin .quo .u64 (.conv .u64 (.bin .add .i64 (.lit 1088) (.conv .i64 (.bin .and .u64 (.bin .shr .u64 (.conv .u64 (.bin .add .i64 (.bin .mul .i64 (.lit 64) (.var 10)) (.bin .mul .i64 (.lit 8) (.var 12)))) (.lit 0)) (.lit 63))))) (.lit 64)), 17⟩
theorem n_2 (h : Is v u n m o) : NFok (sg a0 a1 a2 v u n m o) m_2 := by
  refine NFok.ex (hbd h) rfl ?_
  obtain ⟨v0, v1, u0, u1, h0, h1, h2, h3, h4, h5⟩ := h
  show (((1088 + ((((64 * n) + (8 * o)) / 1) % (63 + 1))) / 64) : Int) = 17
  omega
def m_3 : NF := ⟨(.bin .quo .u64 (.conv .u64 (.bin .add .i64 (.lit 1088) (.conv .i64 (.bin .and .u64 (.bin .shr .u64 (.conv .u64 (.bin .add .i64 (.bin .mul .i64 (.lit 64) (.var 11)) (.bin .mul .i64 (.lit 8) (.var 12)))) (.lit 0)) (.lit 63))))) (.lit 64)), 17⟩
theorem n_3 (h : Is v u n m o) : NFok (sg a0 a1 a2 v u n m o) m_3 := by
  refine NFok.ex (hbd h) rfl ?_
  obtain ⟨v0, v1, u0, u1, h0, h1, h2, h3, h4, h5⟩ := h
  show (((1088 + ((((64 * m) + (8 * o)) / 1) % (63 + 1))) / 64) : Int) = 17
  omega
def m_4 : NF := ⟨(.bin .quo .u64 (.conv .u64 (.bin .add .i64 (.lit 2496) (.bin .mul .i64 (.lit 8) (.bin .rem .i64 (.bin .quo .i64 (.conv .i64 (.bin .quo .u64 (.conv .u64 (.bin .add .i64 (.bin .mul .i64 (.lit 64) (.var 11)) (.bin .mul .i64 (.lit 8) (.var 12)))) (.lit 64))) (.lit 8)) (.lit 8))))) (.lit 64)), 39⟩
theorem n_4 (h : Is v u n m o) : NFok (sg a0 a1 a2 v u n m o) m_4 := by
  refine NFok.ex (hbd h) rfl ?_
  obtain ⟨v0, v1, u0, u1, h0, h1, h2, h3, h4, h5⟩ := h
  show (((2496 + (8 * (((((64 * m) + (8 * o)) / 64) / 8) % 8))) / 64) : Int) = 39
  omega
def m_5 : NF := ⟨(.bin .quo .u64 (.conv .u64 (.bin .add .i64 (.lit 2496) (.bin .mul .i64 (.lit 8) (.bin .rem .i64 (.bin .quo .i64 (.conv .i64 (.bin .quo .u64 (.conv .u64 (.bin .mul .i64 (.lit 64) (.var 11))) (.lit 64))) (.lit 8)) (.lit 8))))) (.lit 64)), 39⟩
theorem n_5 (h : Is v u n m o) : NFok (sg a0 a1 a2 v u n m o) m_5 := by
  refine NFok.ex (hbd h) rfl ?_
  obtain ⟨v0, v1, u0, u1, h0, h1, h2, h3, h4, h5⟩ := h
  show (((2496 + (8 * ((((64 * m) / 64) / 8) % 8))) / 64) : Int) = 39
  omega
def m_6 : NF := ⟨(.bin .quo .u64 (.conv .u64 (.bin .add .i64 (.lit 2496) (.bin .mul .i64 (.lit 8) (.bin .rem .i64 (.bin .quo .i64 (.var 11) (.lit 8)) (.lit 8))))) (.lit 64)), 39⟩
theorem n_6 (h : Is v u n m o) : NFok (sg a0 a1 a2 v u n m o) m_6 := by
  refine NFok.ex (hbd h) rfl ?_
  obtain ⟨v0, v1, u0, u1, h0, h1, h2, h3, h4, h5⟩ := h
  show (((2496 + (8 * ((m / 8) % 8))) / 64) : Int) = 39
  omega
def m_7 : NF := ⟨(.bin .quo .u64 (.conv .u64 (.bin .add .i64 (.lit 2560) (.bin .mul .i64 (.lit 8) (.bin .rem .i64 (.conv .i64 (.bin .quo .u64 (.conv .u64 (.bin .add .i64 (.bin .mul .i64 (.lit 64) (.var 11)) (.bin .mul .i64 (.lit 8) (.var 12)))) (.lit 64))) (.lit 8))))) (.lit 64)), 40⟩
theorem n_7 (h : Is v u n m o) : NFok (sg a0 a1 a2 v u n m o) m_7 := by
  refine NFok.ex (hbd h) rfl ?_
  obtain ⟨v0, v1, u0, u1, h0, h1, h2, h3, h4, h5⟩ := h
  show (((2560 + (8 * ((((64 * m) + (8 * o)) / 64) % 8))) / 64) : Int) = 40
  omega
def m_8 : NF := ⟨(.bin .quo .u64 (.conv .u64 (.bin .add .i64 (.lit 2560) (.bin .mul .i64 (.lit 8) (.bin .rem .i64 (.conv .i64 (.bin .quo .u64 (.conv .u64 (.bin .mul .i64 (.lit 64) (.var 11))) (.lit 64))) (.lit 8))))) (.lit 64)), 40⟩
theorem n_8 (h : Is v u n m o) : NFok (sg a0 a1 a2 v u n m o) m_8 := by
  refine NFok.ex (hbd h) rfl ?_
  obtain ⟨v0, v1, u0, u1, h0, h1, h2, h3, h4, h5⟩ := h
  show (((2560 + (8 * (((64 * m) / 64) % 8))) / 64) : Int) = 40
  omega
def m_9 : NF := ⟨(.bin .quo .u64 (.conv .u64 (.bin .add .i64 (.lit 2560) (.bin .mul .i64 (.lit 8) (.bin .rem .i64 (.var 11) (.lit 8))))) (.lit 64)), 40⟩
theorem n_9 (h : Is v u n m o) : NFok (sg a0 a1 a2 v u n m o) m_9 := by
  refine NFok.ex (hbd h) rfl ?_
  obtain ⟨v0, v1, u0, u1, h0, h1, h2, h3, h4, h5⟩ := h
  show (((2560 + (8 * (m % 8))) / 64) : Int) = 40
  omega
def m_10 : NF := ⟨(.bin .quo .u64 (.conv .u64 (.bin .add .i64 (.lit 320) (.bin .mul .i64 (.lit 8) (.bin .rem .i64 (.bin .quo .i64 (.bin .quo .i64 (.conv .i64 (.bin .quo .u64 (.conv .u64 (.bin .add .i64 (.bin .mul .i64 (.lit 64) (.var 10)) (.bin .mul .i64 (.lit 8) (.var 12)))) (.lit 64))) (.lit 8)) (.lit 8)) (.lit 8))))) (.lit 64)), 5⟩
theorem n_10 (h : Is v u n m o) : NFok (sg a0 a1 a2 v u n m o) m_10 := by
  refine NFok.ex (hbd h) rfl ?_
  obtain ⟨v0, v1, u0, u1, h0, h1, h2, h3, h4, h5⟩ := h
  show (((320 + (8 * ((((((64 * n) + (8 * o)) / 64) / 8) / 8) % 8))) / 64) : Int) = 5
  omega
def m_11 : NF := ⟨(.bin .quo .u64 (.conv .u64 (.bin .add .i64 (.lit 320) (.bin .mul .i64 (.lit 8) (.bin .rem .i64 (.bin .quo .i64 (.bin .quo .i64 (.conv .i64 (.bin .quo .u64 (.conv .u64 (.bin .mul .i64 (.lit 64) (.var 10))) (.lit 64))) (.lit 8)) (.lit 8)) (.lit 8))))) (.lit 64)), 5⟩
theorem n_11 (h : Is v u n m o) : NFok (sg a0 a1 a2 v u n m o) m_11 := by
  refine NFok.ex (hbd h) rfl ?_
  obtain ⟨v0, v1, u0, u1, h0, h1, h2, h3, h4, h5⟩ := h
  show (((320 + (8 * (((((64 * n) / 64) / 8) / 8) % 8))) / 64) : Int) = 5
  omega
def m_12 : NF := ⟨(.bin .quo .u64 (.conv .u64 (.bin .add .i64 (.lit 768) (.bin .mul .i64 (.lit 8) (.bin .rem .i64 (.bin .quo .i64 (.bin .quo .i64 (.conv .i64 (.bin .quo .u64 (.conv .u64 (.bin .add .i64 (.bin .mul .i64 (.lit 64) (.var 11)) (.bin .mul .i64 (.lit 8) (.var 12)))) (.lit 64))) (.lit 8)) (.lit 8)) (.lit 8))))) (.lit 64)), 12⟩
theorem n_12 (h : Is v u n m o) : NFok (sg a0 a1 a2 v u n m o) m_12 := by
  refine NFok.ex (hbd h) rfl ?_
  obtain ⟨v0, v1, u0, u1, h0, h1, h2, h3, h4, h5⟩ := h
  show (((768 + (8 * ((((((64 * m) + (8 * o)) / 64) / 8) / 8) % 8))) / 64) : Int) = 12
  omega
def m_13 : NF := ⟨(.bin .quo .u64 (.conv .u64 (.bin .add .i64 (.lit 768) (.bin .mul .i64 (.lit 8) (.bin .rem .i64 (.bin .quo .i64 (.bin .quo .i64 (.conv .i64 (.bin .quo .u64 (.conv .u64 (.bin .mul .i64 (.lit 64) (.var 11))) (.lit 64))) (.lit 8)) (.lit 8)) (.lit 8))))) (.lit 64)), 12⟩
theorem n_13 (h : Is v u n m o) : NFok (sg a0 a1 a2 v u n m o) m_13 := by
  refine NFok.ex (hbd h) rfl ?_
  obtain ⟨v0, v1, u0, u1, h0, h1, h2, h3, h4, h5⟩ := h
  show (((768 + (8 * (((((64 * m) / 64) / 8) / 8) % 8))) / 64) : Int) = 12
  omega
def m_14 : NF := ⟨(.bin .quo .u64 (.conv .u64 (.bin .add .i64 (.lit 768) (.bin .mul .i64 (.lit 8) (.bin .rem .i64 (.bin .quo .i64 (.bin .quo .i64 (.var 11) (.lit 8)) (.lit 8)) (.lit 8))))) (.lit 64)), 12⟩
theorem n_14 (h : Is v u n m o) : NFok (sg a0 a1 a2 v u n m o) m_14 := by
  refine NFok.ex (hbd h) rfl ?_
  obtain ⟨v0, v1, u0, u1, h0, h1, h2, h3, h4, h5⟩ := h
  show (((768 + (8 * (((m / 8) / 8) % 8))) / 64) : Int) = 12
  omega
def m_15 : NF := ⟨(.bin .quo .u64 (.conv .u64 (.bin .add .i64 (.lit 960) (.bin .mul .i64 (.lit 8) (.bin .rem .i64 (.bin .quo .i64 (.conv .i64 (.bin .quo .u64 (.conv .u64 (.bin .add .i64 (.bin .mul .i64 (.lit 64) (.var 10)) (.bin .mul .i64 (.lit 8) (.var 12)))) (.lit 64))) (.lit 8)) (.lit 8))))) (.lit 64)), 15⟩
theorem n_15 (h : Is v u n m o) : NFok (sg a0 a1 a2 v u n m o) m_15 := by
  refine NFok.ex (hbd h) rfl ?_
  obtain ⟨v0, v1, u0, u1, h0, h1, h2, h3, h4, h5⟩ := h
  show (((960 + (8 * (((((64 * n) + (8 * o)) / 64) / 8) % 8))) / 64) : Int) = 15
  omega
def m_16 : NF := ⟨(.bin .quo .u64 (.conv .u64 (.bin .add .i64 (.lit 960) (.bin .mul .i64 (.lit 8) (.bin .rem .i64 (.bin .quo .i64 (.conv .i64 (.bin .quo .u64 (.conv .u64 (.bin .mul .i64 (.lit 64) (.var 10))) (.lit 64))) (.lit 8)) (.lit 8))))) (.lit 64)), 15⟩
theorem n_16 (h : Is v u n m o) : NFok (sg a0 a1 a2 v u n m o) m_16 := by
  refine NFok.ex (hbd h) rfl ?_
  obtain ⟨v0, v1, u0, u1, h0, h1, h2, h3, h4, h5⟩ := h
  show (((960 + (8 * ((((64 * n) / 64) / 8) % 8))) / 64) : Int) = 15
  omega
def m_17 : NF := ⟨(.bin .rem .u64 (.conv .u64 (.bin .add .i64 (.lit 1024) (.bin .mul .i64 (.lit 8) (.bin .rem .i64 (.conv .i64 (.bin .quo .u64 (.conv .u64 (.bin .add .i64 (.bin .mul .i64 (.lit 64) (.var 10)) (.bin .mul .i64 (.lit 8) (.var 12)))) (.lit 64))) (.lit 8))))) (.lit 8)), 0⟩
theorem n_17 (h : Is v u n m o) : NFok (sg a0 a1 a2 v u n m o) m_17 := by
  refine NFok.ex (hbd h) rfl ?_
  obtain ⟨v0, v1, u0, u1, h0, h1, h2, h3, h4, h5⟩ := h
  show (((1024 + (8 * ((((64 * n) + (8 * o)) / 64) % 8))) % 8) : Int) = 0
  omega
def m_18 : NF := ⟨(.bin .rem .u64 (.conv .u64 (.bin .add .i64 (.lit 1024) (.bin .mul .i64 (.lit 8) (.bin .rem .i64 (.conv .i64 (.bin .quo .u64 (.conv .u64 (.bin .mul .i64 (.lit 64) (.var 10))) (.lit 64))) (.lit 8))))) (.lit 8)), 0⟩
theorem n_18 (h : Is v u n m o) : NFok (sg a0 a1 a2 v u n m o) m_18 := by
  refine NFok.ex (hbd h) rfl ?_
  obtain ⟨v0, v1, u0, u1, h0, h1, h2, h3, h4, h5⟩ := h
  show (((1024 + (8 * (((64 * n) / 64) % 8))) % 8) : Int) = 0
  omega
def m_19 : NF := ⟨(.bin .rem .u64 (.conv .u64 (.bin .add .i64 (.lit 1088) (.conv .i64 (.bin .and .u64 (.bin .shr .u64 (.conv .u64 (.bin .add .i64 (.bin .mul .i64 (.lit 64) (.var 10)) (.bin .mul .i64 (.lit 8) (.var 12)))) (.lit 0)) (.lit 63))))) (.lit 8)), 0⟩
theorem n_19 (h : Is v u n m o) : NFok (sg a0 a1 a2 v u n m o) m_19 := by
  refine NFok.ex (hbd h) rfl ?_
  obtain ⟨v0, v1, u0, u1, h0, h1, h2, h3, h4, h5⟩ := h
  show (((1088 + ((((64 * n) + (8 * o)) / 1) % (63 + 1))) % 8) : Int) = 0
  omega
def m_20 : NF := ⟨(.bin .rem .u64 (.conv .u64 (.bin .add .i64 (.lit 1088) (.conv .i64 (.bin .and .u64 (.bin .shr .u64 (.conv .u64 (.bin .add .i64 (.bin .mul .i64 (.lit 64) (.var 11)) (.bin .mul .i64 (.lit 8) (.var 12)))) (.lit 0)) (.lit 63))))) (.lit 8)), 0⟩
theorem n_20 (h : Is v u n m o) : NFok (sg a0 a1 a2 v u n m o) m_20 := by
  refine NFok.ex (hbd h) rfl ?_
  obtain ⟨v0, v1, u0, u1, h0, h1, h2, h3, h4, h5⟩ := h
  show (((1088 + ((((64 * m) + (8 * o)) / 1) % (63 + 1))) % 8) : Int) = 0
  omega
def m_21 : NF := ⟨(.bin .rem .u64 (.conv .u64 (.bin .add .i64 (.lit 2496) (.bin .mul .i64 (.lit 8) (.bin .rem .i64 (.bin .quo .i64 (.conv .i64 (.bin .quo .u64 (.conv .u64 (.bin .add .i64 (.bin .mul .i64 (.lit 64) (.var 11)) (.bin .mul .i64 (.lit 8) (.var 12)))) (.lit 64))) (.lit 8)) (.lit 8))))) (.lit 8)), 0⟩
theorem n_21 (h : Is v u n m o) : NFok (sg a0 a1 a2 v u n m o) m_21 := by
  refine NFok.ex (hbd h) rfl ?_
  obtain ⟨v0, v1, u0, u1, h0, h1, h2, h3, h4, h5⟩ := h
  show (((2496 + (8 * (((((64 * m) + (8 * o)) / 64) / 8) % 8))) % 8) : Int) = 0
  omega
def m_22 : NF := ⟨(.bin .rem .u64 (.conv .u64 (.bin .add .i64 (.lit 2496) (.bin .mul .i64 (.lit 8) (.bin .rem .i64 (.bin .quo .i64 (.conv .i64 (.bin .quo .u64 (.conv .u64 (.bin .mul .i64 (.lit 64) (.var 11))) (.lit 64))) (.lit 8)) (.lit 8))))) (.lit 8)), 0⟩
theorem n_22 (h : Is v u n m o) : NFok (sg a0 a1 a2 v u n m o) m_22 := by
  refine NFok.ex (hbd h) rfl ?_
  obtain ⟨v0, v1, u0, u1, h0, h1, h2, h3, h4, h5⟩ := h
  show (((2496 + (8 * ((((64 * m) / 64) / 8) % 8))) % 8) : Int) = 0
  omega
def m_23 : NF := ⟨(.bin .rem .u64 (.conv .u64 (.bin .add .i64 (.lit 2496) (.bin .mul .i64 (.lit 8) (.bin .rem .i64 (.bin .quo .i64 (.var 11) (.lit 8)) (.lit 8))))) (.lit 8)), 0⟩
theorem n_23 (h : Is v u n m o) : NFok (sg a0 a1 a2 v u n m o) m_23 := by
  refine NFok.ex (hbd h) rfl ?_
  obtain ⟨v0, v1, u0, u1, h0, h1, h2, h3, h4, h5⟩ := h
  show (((2496 + (8 * ((m / 8) % 8))) % 8) : Int) = 0
  omega
def m_24 : NF := ⟨(.bin .rem .u64 (.conv .u64 (.bin .add .i64 (.lit 2560) (.bin .mul .i64 (.lit 8) (.bin .rem .i64 (.conv .i64 (.bin .quo .u64 (.conv .u64 (.bin .add .i64 (.bin .mul .i64 (.lit 64) (.var 11)) (.bin .mul .i64 (.lit 8) (.var 12)))) (.lit 64))) (.lit 8))))) (.lit 8)), 0⟩
theorem n_24 (h : Is v u n m o) : NFok (sg a0 a1 a2 v u n m o) m_24 := by
  refine NFok.ex (hbd h) rfl ?_
  obtain ⟨v0, v1, u0, u1, h0, h1, h2, h3, h4, h5⟩ := h
  show (((2560 + (8 * ((((64 * m) + (8 * o)) / 64) % 8))) % 8) : Int) = 0
  omega
def m_25 : NF := ⟨(.bin .rem .u64 (.conv .u64 (.bin .add .i64 (.lit 2560) (.bin .mul .i64 (.lit 8) (.bin .rem .i64 (.conv .i64 (.bin .quo .u64 (.conv .u64 (.bin .mul .i64 (.lit 64) (.var 11))) (.lit 64))) (.lit 8))))) (.lit 8)), 0⟩
theorem n_25 (h : Is v u n m o) : NFok (sg a0 a1 a2 v u n m o) m_25 := by
  refine NFok.ex (hbd h) rfl ?_
  obtain ⟨v0, v1, u0, u1, h0, h1, h2, h3, h4, h5⟩ := h
  show (((2560 + (8 * (((64 * m) / 64) % 8))) % 8) : Int) = 0
  omega
def m_26 : NF := ⟨(.bin .rem .u64 (.conv .u64 (.bin .add .i64 (.lit 2560) (.bin .mul .i64 (.lit 8) (.bin .rem .i64 (.var 11) (.lit 8))))) (.lit 8)), 0⟩
theorem n_26 (h : Is v u n m o) : NFok (sg a0 a1 a2 v u n m o) m_26 := by
  refine NFok.ex (hbd h) rfl ?_
  obtain ⟨v0, v1, u0, u1, h0, h1, h2, h3, h4, h5⟩ := h
  show (((2560 + (8 * (m % 8))) % 8) : Int) = 0
  omega
def m_27 : NF := ⟨(.bin .rem .u64 (.conv .u64 (.bin .add .i64 (.lit 320) (.bin .mul .i64 (.lit 8) (.bin .rem .i64 (.bin .quo .i64 (.bin .quo .i64 (.conv .i64 (.bin .quo .u64 (.conv .u64 (.bin .add .i64 (.bin .mul .i64 (.lit 64) (.var 10)) (.bin .mul .i64 (.lit 8) (.var 12)))) (.lit 64))) (.lit 8)) (.lit 8)) (.lit 8))))) (.lit 8)), 0⟩
theorem n_27 (h : Is v u n m o) : NFok (sg a0 a1 a2 v u n m o) m_27 := by
  refine NFok.ex (hbd h) rfl ?_
  obtain ⟨v0, v1, u0, u1, h0, h1, h2, h3, h4, h5⟩ := h
  show (((320 + (8 * ((((((64 * n) + (8 * o)) / 64) / 8) / 8) % 8))) % 8) : Int) = 0
  omega
def m_28 : NF := ⟨(.bin .rem .u64 (.conv .u64 (.bin .add .i64 (.lit 320) (.bin .mul .i64 (.lit 8) (.bin .rem .i64 (.bin .quo .i64 (.bin .quo .i64 (.conv .i64 (.bin .quo .u64 (.conv .u64 (.bin .mul .i64 (.lit 64) (.var 10))) (.lit 64))) (.lit 8)) (.lit 8)) (.lit 8))))) (.lit 8)), 0⟩
theorem n_28 (h : Is v u n m o) : NFok (sg a0 a1 a2 v u n m o) m_28 := by
  refine NFok.ex (hbd h) rfl ?_
  obtain ⟨v0, v1, u0, u1, h0, h1, h2, h3, h4, h5⟩ := h
  show (((320 + (8 * (((((64 * n) / 64) / 8) / 8) % 8))) % 8) : Int) = 0
  omega
def m_29 : NF := ⟨(.bin .rem .u64 (.conv .u64 (.bin .add .i64 (.lit 768) (.bin .mul .i64 (.lit 8) (.bin .rem .i64 (.bin .quo .i64 (.bin .quo .i64 (.conv .i64 (.bin .quo .u64 (.conv .u64 (.bin .add .i64 (.bin .mul .i64 (.lit 64) (.var 11)) (.bin .mul .i64 (.lit 8) (.var 12)))) (.lit 64))) (.lit 8)) (.lit 8)) (.lit 8))))) (.lit 8)), 0⟩
theorem n_29 (h : Is v u n m o) : NFok (sg a0 a1 a2 v u n m o) m_29 := by
  refine NFok.ex (hbd h) rfl ?_
  obtain ⟨v0, v1, u0, u1, h0, h1, h2, h3, h4, h5⟩ := h
  show (((768 + (8 * ((((((64 * m) + (8 * o)) / 64) / 8) / 8) % 8))) % 8) : Int) = 0
  omega
def m_30 : NF := ⟨(.bin .rem .u64 (.conv .u64 (.bin .add .i64 (.lit 768) (.bin .mul .i64 (.lit 8) (.bin .rem .i64 (.bin .quo .i64 (.bin .quo .i64 (.conv .i64 (.bin .quo .u64 (.conv .u64 (.bin .mul .i64 (.lit 64) (.var 11))) (.lit 64))) (.lit 8)) (.lit 8)) (.lit 8))))) (.lit 8)), 0⟩
theorem n_30 (h : Is v u n m o) : NFok (sg a0 a1 a2 v u n m o) m_30 := by
  refine NFok.ex (hbd h) rfl ?_
  obtain ⟨v0, v1, u0, u1, h0, h1, h2, h3, h4, h5⟩ := h
  show (((768 + (8 * (((((64 * m) / 64) / 8) / 8) % 8))) % 8) : Int) = 0
  omega
def m_31 : NF := ⟨(.bin .rem .u64 (.conv .u64 (.bin .add .i64 (.lit 768) (.bin .mul .i64 (.lit 8) (.bin .rem .i64 (.bin .quo .i64 (.bin .quo .i64 (.var 11) (.lit 8)) (.lit 8)) (.lit 8))))) (.lit 8)), 0⟩
theorem n_31 (h : Is v u n m o) : NFok (sg a0 a1 a2 v u n m o) m_31 := by
  refine NFok.ex (hbd h) rfl ?_
  obtain ⟨v0, v1, u0, u1, h0, h1, h2, h3, h4, h5⟩ := h
  show (((768 + (8 * (((m / 8) / 8) % 8))) % 8) : Int) = 0
  omega
def m_32 : NF := ⟨(.bin .rem .u64 (.conv .u64 (.bin .add .i64 (.lit 960) (.bin .mul .i64 (.lit 8) (.bin .rem .i64 (.bin .quo .i64 (.conv .i64 (.bin .quo .u64 (.conv .u64 (.bin .add .i64 (.bin .mul .i64 (.lit 64) (.var 10)) (.bin .mul .i64 (.lit 8) (.var 12)))) (.lit 64))) (.lit 8)) (.lit 8))))) (.lit 8)), 0⟩
theorem n_32 (h : Is v u n m o) : NFok (sg a0 a1 a2 v u n m o) m_32 := by
  refine NFok.ex (hbd h) rfl ?_
  obtain ⟨v0, v1, u0, u1, h0, h1, h2, h3, h4, h5⟩ := h
  show (((960 + (8 * (((((64 * n) + (8 * o)) / 64) / 8) % 8))) % 8) : Int) = 0
  omega
def m_33 : NF := ⟨(.bin .rem .u64 (.conv .u64 (.bin .add .i64 (.lit 960) (.bin .mul .i64 (.lit 8) (.bin .rem .i64 (.bin .quo .i64 (.conv .i64 (.bin .quo .u64 (.conv .u64 (.bin .mul .i64 (.lit 64) (.var 10))) (.lit 64))) (.lit 8)) (.lit 8))))) (.lit 8)), 0⟩
theorem n_33 (h : Is v u n m o) : NFok (sg a0 a1 a2 v u n m o) m_33 := by
  refine NFok.ex (hbd h) rfl ?_
  obtain ⟨v0, v1, u0, u1, h0, h1, h2, h3, h4, h5⟩ := h
  show (((960 + (8 * ((((64 * n) / 64) / 8) % 8))) % 8) : Int) = 0
  omega
def lC : List CF := [k_0, k_1, k_2, k_3, k_4, k_5, k_6, k_7, k_8, k_9, k_10, k_11, k_12, k_13, k_14, k_15, k_16, k_17, k_18, k_19, k_20, k_21, k_22, k_23, k_24, k_25, k_26, k_27, k_28, k_29, k_30, k_31, k_32, k_33, k_34, k_35, k_36, k_37, k_38, k_39, k_40, k_41, k_42, k_43, k_44, k_45, k_46, k_47, k_48]
def lN : List NF := [m_0, m_1, m_2, m_3, m_4, m_5, m_6, m_7, m_8, m_9, m_10, m_11, m_12, m_13, m_14, m_15, m_16, m_17, m_18, m_19, m_20, m_21, m_22, m_23, m_24, m_25, m_26, m_27, m_28, m_29, m_30, m_31, m_32, m_33]
theorem okC (h : Is v u n m o) : Al (CFok (sg a0 a1 a2 v u n m o)) lC := (.cons (c_0 h) (.cons (c_1 h) (.cons (c_2 h) (.cons (c_3 h) (.cons (c_4 h) (.cons (c_5 h) (.cons (c_6 h) (.cons (c_7 h) (.cons (c_8 h) (.cons (c_9 h) (.cons (c_10 h) (.cons (c_11 h) (.cons (c_12 h) (.cons (c_13 h) (.cons (c_14 h) (.cons (c_15 h) (.cons (c_16 h) (.cons (c_17 h) (.cons (c_18 h) (.cons (c_19 h) (.cons (c_20 h) (.cons (c_21 h) (.cons (c_22 h) (.cons (c_23 h) (.cons (c_24 h) (.cons (c_25 h) (.cons (c_26 h) (.cons (c_27 h) (.cons (c_28 h) (.cons (c_29 h) (.cons (c_30 h) (.cons (c_31 h) (.cons (c_32 h) (.cons (c_33 h) (.cons (c_34 h) (.cons (c_35 h) (.cons (c_36 h) (.cons (c_37 h) (.cons (c_38 h) (.cons (c_39 h) (.cons (c_40 h) (.cons (c_41 h) (.cons (c_42 h) (.cons (c_43 h) (.cons (c_44 h) (.cons (c_45 h) (.cons (c_46 h) (.cons (c_47 h) (.cons (c_48 h) .nil)))))))))))))))))))))))))))))))))))))))))))))))))
theorem okN (h : Is v u n m o) : Al (NFok (sg a0 a1 a2 v u n m o)) lN := (.cons (n_0 h) (.cons (n_1 h) (.cons (n_2 h) (.cons (n_3 h) (.cons (n_4 h) (.cons (n_5 h) (.cons (n_6 h) (.cons (n_7 h) (.cons (n_8 h) (.cons (n_9 h) (.cons (n_10 h) (.cons (n_11 h) (.cons (n_12 h) (.cons (n_13 h) (.cons (n_14 h) (.cons (n_15 h) (.cons (n_16 h) (.cons (n_17 h) (.cons (n_18 h) (.cons (n_19 h) (.cons (n_20 h) (.cons (n_21 h) (.cons (n_22 h) (.cons (n_23 h) (.cons (n_24 h) (.cons (n_25 h) (.cons (n_26 h) (.cons (n_27 h) (.cons (n_28 h) (.cons (n_29 h) (.cons (n_30 h) (.cons (n_31 h) (.cons (n_32 h) (.cons (n_33 h) .nil))))))))))))))))))))))))))))))))))
def knz_0 : CF := ⟨.eql, (.conv .i64 (.bin .quo .u64 (.conv .u64 (.bin .mul .i64 (.lit 64) (.var 10))) (.lit 64))), (.lit 0), true⟩
theorem cnz_0 (h : Is v u n m o) (hc : n = 0) : CFok (sg a0 a1 a2 v u n m o) knz_0 := by
  refine CFok.ex (hbd h) rfl rfl ?_
  obtain ⟨v0, v1, u0, u1, h0, h1, h2, h3, h4, h5⟩ := h
  show ((((64 * n) / 64) : Int) == 0) = true
  refine beq_iff_eq.2 ?_
  omega
def mnz_0 : NF := ⟨(.bin .rem .i64 (.conv .i64 (.bin .quo .u64 (.conv .u64 (.bin .add .i64 (.bin .mul .i64 (.lit 64) (.var 10)) (.bin .mul .i64 (.lit 8) (.var 12)))) (.lit 64))) (.lit 4)), 0⟩
theorem nnz_0 (h : Is v u n m o) (hc : n = 0) : NFok (sg a0 a1 a2 v u n m o) mnz_0 := by
  refine NFok.ex (hbd h) rfl ?_
  obtain ⟨v0, v1, u0, u1, h0, h1, h2, h3, h4, h5⟩ := h
  show (((((64 * n) + (8 * o)) / 64) % 4) : Int) = 0
  omega
def xCnz (l : List CF) : List CF := knz_0 :: l
def xNnz (l : List NF) : List NF := mnz_0 :: l
theorem okCnz (h : Is v u n m o) (hc : n = 0) {l : List CF} (hl : Al (CFok (sg a0 a1 a2 v u n m o)) l) : Al (CFok (sg a0 a1 a2 v u n m o)) (xCnz l) := (.cons (cnz_0 h hc) hl)
theorem okNnz (h : Is v u n m o) (hc : n = 0) {l : List NF} (hl : Al (NFok (sg a0 a1 a2 v u n m o)) l) : Al (NFok (sg a0 a1 a2 v u n m o)) (xNnz l) := (.cons (nnz_0 h hc) hl)
def kmz_0 : CF := ⟨.eql, (.conv .i64 (.bin .quo .u64 (.conv .u64 (.bin .mul .i64 (.lit 64) (.var 11))) (.lit 64))), (.lit 0), true⟩
theorem cmz_0 (h : Is v u n m o) (hc : m = 0) : CFok (sg a0 a1 a2 v u n m o) kmz_0 := by
  refine CFok.ex (hbd h) rfl rfl ?_
  obtain ⟨v0, v1, u0, u1, h0, h1, h2, h3, h4, h5⟩ := h
  show ((((64 * m) / 64) : Int) == 0) = true
  refine beq_iff_eq.2 ?_
  omega
def mmz_0 : NF := ⟨(.bin .rem .i64 (.conv .i64 (.bin .quo .u64 (.conv .u64 (.bin .add .i64 (.bin .mul .i64 (.lit 64) (.var 11)) (.bin .mul .i64 (.lit 8) (.var 12)))) (.lit 64))) (.lit 4)), 0⟩
theorem nmz_0 (h : Is v u n m o) (hc : m = 0) : NFok (sg a0 a1 a2 v u n m o) mmz_0 := by
  refine NFok.ex (hbd h) rfl ?_
  obtain ⟨v0, v1, u0, u1, h0, h1, h2, h3, h4, h5⟩ := h
  show (((((64 * m) + (8 * o)) / 64) % 4) : Int) = 0
  omega
def xCmz (l : List CF) : List CF := kmz_0 :: l
def xNmz (l : List NF) : List NF := mmz_0 :: l
theorem okCmz (h : Is v u n m o) (hc : m = 0) {l : List CF} (hl : Al (CFok (sg a0 a1 a2 v u n m o)) l) : Al (CFok (sg a0 a1 a2 v u n m o)) (xCmz l) := (.cons (cmz_0 h hc) hl)
theorem okNmz (h : Is v u n m o) (hc : m = 0) {l : List NF} (hl : Al (NFok (sg a0 a1 a2 v u n m o)) l) : Al (NFok (sg a0 a1 a2 v u n m o)) (xNmz l) := (.cons (nmz_0 h hc) hl)
def kn0_0 : CF := ⟨.eql, (.conv .i64 (.bin .quo .u64 (.conv .u64 (.bin .mul .i64 (.lit 64) (.var 10))) (.lit 64))), (.lit 0), false⟩
theorem cn0_0 (h : Is v u n m o) (hc : n % 4 = 0 ∧ 0 < n) : CFok (sg a0 a1 a2 v u n m o) kn0_0 := by
  refine CFok.ex (hbd h) rfl rfl ?_
  obtain ⟨v0, v1, u0, u1, h0, h1, h2, h3, h4, h5⟩ := h
  show ((((64 * n) / 64) : Int) == 0) = false
  refine beq_eq_false_iff_ne.2 ?_
  omega
def mn0_0 : NF := ⟨(.bin .rem .i64 (.conv .i64 (.bin .quo .u64 (.conv .u64 (.bin .add .i64 (.bin .mul .i64 (.lit 64) (.var 10)) (.bin .mul .i64 (.lit 8) (.var 12)))) (.lit 64))) (.lit 4)), 0⟩
theorem nn0_0 (h : Is v u n m o) (hc : n % 4 = 0 ∧ 0 < n) : NFok (sg a0 a1 a2 v u n m o) mn0_0 := by
  refine NFok.ex (hbd h) rfl ?_
  obtain ⟨v0, v1, u0, u1, h0, h1, h2, h3, h4, h5⟩ := h
  show (((((64 * n) + (8 * o)) / 64) % 4) : Int) = 0
  omega
def xCn0 (l : List CF) : List CF := kn0_0 :: l
def xNn0 (l : List NF) : List NF := mn0_0 :: l
theorem okCn0 (h : Is v u n m o) (hc : n % 4 = 0 ∧ 0 < n) {l : List CF} (hl : Al (CFok (sg a0 a1 a2 v u n m o)) l) : Al (CFok (sg a0 a1 a2 v u n m o)) (xCn0 l) := (.cons (cn0_0 h hc) hl)
theorem okNn0 (h : Is v u n m o) (hc : n % 4 = 0 ∧ 0 < n) {l : List NF} (hl : Al (NFok (sg a0 a1 a2 v u n m o)) l) : Al (NFok (sg a0 a1 a2 v u n m o)) (xNn0 l) := (.cons (nn0_0 h hc) hl)
def km0_0 : CF := ⟨.eql, (.conv .i64 (.bin .quo .u64 (.conv .u64 (.bin .mul .i64 (.lit 64) (.var 11))) (.lit 64))), (.lit 0), false⟩
theorem cm0_0 (h : Is v u n m o) (hc : m % 4 = 0 ∧ 0 < m) : CFok (sg a0 a1 a2 v u n m o) km0_0 := by
  refine CFok.ex (hbd h) rfl rfl ?_
  obtain ⟨v0, v1, u0, u1, h0, h1, h2, h3, h4, h5⟩ := h
  show ((((64 * m) / 64) : Int) == 0) = false
  refine beq_eq_false_iff_ne.2 ?_
  omega
def mm0_0 : NF := ⟨(.bin .rem .i64 (.conv .i64 (.bin .quo .u64 (.conv .u64 (.bin .add .i64 (.bin .mul .i64 (.lit 64) (.var 11)) (.bin .mul .i64 (.lit 8) (.var 12)))) (.lit 64))) (.lit 4)), 0⟩
theorem nm0_0 (h : Is v u n m o) (hc : m % 4 = 0 ∧ 0 < m) : NFok (sg a0 a1 a2 v u n m o) mm0_0 := by
  refine NFok.ex (hbd h) rfl ?_
  obtain ⟨v0, v1, u0, u1, h0, h1, h2, h3, h4, h5⟩ := h
  show (((((64 * m) + (8 * o)) / 64) % 4) : Int) = 0
  omega
def xCm0 (l : List CF) : List CF := km0_0 :: l
def xNm0 (l : List NF) : List NF := mm0_0 :: l
theorem okCm0 (h : Is v u n m o) (hc : m % 4 = 0 ∧ 0 < m) {l : List CF} (hl : Al (CFok (sg a0 a1 a2 v u n m o)) l) : Al (CFok (sg a0 a1 a2 v u n m o)) (xCm0 l) := (.cons (cm0_0 h hc) hl)
theorem okNm0 (h : Is v u n m o) (hc : m % 4 = 0 ∧ 0 < m) {l : List NF} (hl : Al (NFok (sg a0 a1 a2 v u n m o)) l) : Al (NFok (sg a0 a1 a2 v u n m o)) (xNm0 l) := (.cons (nm0_0 h hc) hl)
def kn1_0 : CF := ⟨.eql, (.conv .i64 (.bin .quo .u64 (.conv .u64 (.bin .mul .i64 (.lit 64) (.var 10))) (.lit 64))), (.lit 0), false⟩
theorem cn1_0 (h : Is v u n m o) (hc : n % 4 = 1) : CFok (sg a0 a1 a2 v u n m o) kn1_0 := by
  refine CFok.ex (hbd h) rfl rfl ?_
  obtain ⟨v0, v1, u0, u1, h0, h1, h2, h3, h4, h5⟩ := h
  show ((((64 * n) / 64) : Int) == 0) = false
  refine beq_eq_false_iff_ne.2 ?_
  omega
def mn1_0 : NF := ⟨(.bin .rem .i64 (.conv .i64 (.bin .quo .u64 (.conv .u64 (.bin .add .i64 (.bin .mul .i64 (.lit 64) (.var 10)) (.bin .mul .i64 (.lit 8) (.var 12)))) (.lit 64))) (.lit 4)), 1⟩
theorem nn1_0 (h : Is v u n m o) (hc : n % 4 = 1) : NFok (sg a0 a1 a2 v u n m o) mn1_0 := by
  refine NFok.ex (hbd h) rfl ?_
  obtain ⟨v0, v1, u0, u1, h0, h1, h2, h3, h4, h5⟩ := h
  show (((((64 * n) + (8 * o)) / 64) % 4) : Int) = 1
  omega
def xCn1 (l : List CF) : List CF := kn1_0 :: l
def xNn1 (l : List NF) : List NF := mn1_0 :: l
theorem okCn1 (h : Is v u n m o) (hc : n % 4 = 1) {l : List CF} (hl : Al (CFok (sg a0 a1 a2 v u n m o)) l) : Al (CFok (sg a0 a1 a2 v u n m o)) (xCn1 l) := (.cons (cn1_0 h hc) hl)
theorem okNn1 (h : Is v u n m o) (hc : n % 4 = 1) {l : List NF} (hl : Al (NFok (sg a0 a1 a2 v u n m o)) l) : Al (NFok (sg a0 a1 a2 v u n m o)) (xNn1 l) := (.cons (nn1_0 h hc) hl)
def km1_0 : CF := ⟨.eql, (.conv .i64 (.bin .quo .u64 (.conv .u64 (.bin .mul .i64 (.lit 64) (.var 11))) (.lit 64))), (.lit 0), false⟩
theorem cm1_0 (h : Is v u n m o) (hc : m % 4 = 1) : CFok (sg a0 a1 a2 v u n m o) km1_0 := by
  refine CFok.ex (hbd h) rfl rfl ?_
  obtain ⟨v0, v1, u0, u1, h0, h1, h2, h3, h4, h5⟩ := h
  show ((((64 * m) / 64) : Int) == 0) = false
  refine beq_eq_false_iff_ne.2 ?_
  omega
def mm1_0 : NF := ⟨(.bin .rem .i64 (.conv .i64 (.bin .quo .u64 (.conv .u64 (.bin .add .i64 (.bin .mul .i64 (.lit 64) (.var 11)) (.bin .mul .i64 (.lit 8) (.var 12)))) (.lit 64))) (.lit 4)), 1⟩
theorem nm1_0 (h : Is v u n m o) (hc : m % 4 = 1) : NFok (sg a0 a1 a2 v u n m o) mm1_0 := by
  refine NFok.ex (hbd h) rfl ?_
  obtain ⟨v0, v1, u0, u1, h0, h1, h2, h3, h4, h5⟩ := h
  show (((((64 * m) + (8 * o)) / 64) % 4) : Int) = 1
  omega
def xCm1 (l : List CF) : List CF := km1_0 :: l
def xNm1 (l : List NF) : List NF := mm1_0 :: l
theorem okCm1 (h : Is v u n m o) (hc : m % 4 = 1) {l : List CF} (hl : Al (CFok (sg a0 a1 a2 v u n m o)) l) : Al (CFok (sg a0 a1 a2 v u n m o)) (xCm1 l) := (.cons (cm1_0 h hc) hl)
theorem okNm1 (h : Is v u n m o) (hc : m % 4 = 1) {l : List NF} (hl : Al (NFok (sg a0 a1 a2 v u n m o)) l) : Al (NFok (sg a0 a1 a2 v u n m o)) (xNm1 l) := (.cons (nm1_0 h hc) hl)
def kn2_0 : CF := ⟨.eql, (.conv .i64 (.bin .quo .u64 (.conv .u64 (.bin .mul .i64 (.lit 64) (.var 10))) (.lit 64))), (.lit 0), false⟩
theorem cn2_0 (h : Is v u n m o) (hc : n % 4 = 2) : CFok (sg a0 a1 a2 v u n m o) kn2_0 := by
  refine CFok.ex (hbd h) rfl rfl ?_
  obtain ⟨v0, v1, u0, u1, h0, h1, h2, h3, h4, h5⟩ := h
  show ((((64 * n) / 64) : Int) == 0) = false
  refine beq_eq_false_iff_ne.2 ?_
  omega
def mn2_0 : NF := ⟨(.bin .rem .i64 (.conv .i64 (.bin .quo .u64 (.conv .u64 (.bin .add .i64 (.bin .mul .i64 (.lit 64) (.var 10)) (.bin .mul .i64 (.lit 8) (.var 12)))) (.lit 64))) (.lit 4)), 2⟩
theorem nn2_0 (h : Is v u n m o) (hc : n % 4 = 2) : NFok (sg a0 a1 a2 v u n m o) mn2_0 := by
  refine NFok.ex (hbd h) rfl ?_
  obtain ⟨v0, v1, u0, u1, h0, h1, h2, h3, h4, h5⟩ := h
  show (((((64 * n) + (8 * o)) / 64) % 4) : Int) = 2
  omega
def xCn2 (l : List CF) : List CF := kn2_0 :: l
def xNn2 (l : List NF) : List NF := mn2_0 :: l
theorem okCn2 (h : Is v u n m o) (hc : n % 4 = 2) {l : List CF} (hl : Al (CFok (sg a0 a1 a2 v u n m o)) l) : Al (CFok (sg a0 a1 a2 v u n m o)) (xCn2 l) := (.cons (cn2_0 h hc) hl)
theorem okNn2 (h : Is v u n m o) (hc : n % 4 = 2) {l : List NF} (hl : Al (NFok (sg a0 a1 a2 v u n m o)) l) : Al (NFok (sg a0 a1 a2 v u n m o)) (xNn2 l) := (.cons (nn2_0 h hc) hl)
def km2_0 : CF := ⟨.eql, (.conv .i64 (.bin .quo .u64 (.conv .u64 (.bin .mul .i64 (.lit 64) (.var 11))) (.lit 64))), (.lit 0), false⟩
theorem cm2_0 (h : Is v u n m o) (hc : m % 4 = 2) : CFok (sg a0 a1 a2 v u n m o) km2_0 := by
  refine CFok.ex (hbd h) rfl rfl ?_
  obtain ⟨v0, v1, u0, u1, h0, h1, h2, h3, h4, h5⟩ := h
  show ((((64 * m) / 64) : Int) == 0) = false
  refine beq_eq_false_iff_ne.2 ?_
  omega
def mm2_0 : NF := ⟨(.bin .rem .i64 (.conv .i64 (.bin .quo .u64 (.conv .u64 (.bin .add .i64 (.bin .mul .i64 (.lit 64) (.var 11)) (.bin .mul .i64 (.lit 8) (.var 12)))) (.lit 64))) (.lit 4)), 2⟩
theorem nm2_0 (h : Is v u n m o) (hc : m % 4 = 2) : NFok (sg a0 a1 a2 v u n m o) mm2_0 := by
  refine NFok.ex (hbd h) rfl ?_
  obtain ⟨v0, v1, u0, u1, h0, h1, h2, h3, h4, h5⟩ := h
  show (((((64 * m) + (8 * o)) / 64) % 4) : Int) = 2
  omega
def xCm2 (l : List CF) : List CF := km2_0 :: l
def xNm2 (l : List NF) : List NF := mm2_0 :: l
theorem okCm2 (h : Is v u n m o) (hc : m % 4 = 2) {l : List CF} (hl : Al (CFok (sg a0 a1 a2 v u n m o)) l) : Al (CFok (sg a0 a1 a2 v u n m o)) (xCm2 l) := (.cons (cm2_0 h hc) hl)
theorem okNm2 (h : Is v u n m o) (hc : m % 4 = 2) {l : List NF} (hl : Al (NFok (sg a0 a1 a2 v u n m o)) l) : Al (NFok (sg a0 a1 a2 v u n m o)) (xNm2 l) := (.cons (nm2_0 h hc) hl)
def kn3_0 : CF := ⟨.eql, (.conv .i64 (.bin .quo .u64 (.conv .u64 (.bin .mul .i64 (.lit 64) (.var 10))) (.lit 64))), (.lit 0), false⟩
theorem cn3_0 (h : Is v u n m o) (hc : n % 4 = 3) : CFok (sg a0 a1 a2 v u n m o) kn3_0 := by
  refine CFok.ex (hbd h) rfl rfl ?_
  obtain ⟨v0, v1, u0, u1, h0, h1, h2, h3, h4, h5⟩ := h
  show ((((64 * n) / 64) : Int) == 0) = false
  refine beq_eq_false_iff_ne.2 ?_
  omega
def mn3_0 : NF := ⟨(.bin .rem .i64 (.conv .i64 (.bin .quo .u64 (.conv .u64 (.bin .add .i64 (.bin .mul .i64 (.lit 64) (.var 10)) (.bin .mul .i64 (.lit 8) (.var 12)))) (.lit 64))) (.lit 4)), 3⟩
theorem nn3_0 (h : Is v u n m o) (hc : n % 4 = 3) : NFok (sg a0 a1 a2 v u n m o) mn3_0 := by
  refine NFok.ex (hbd h) rfl ?_
  obtain ⟨v0, v1, u0, u1, h0, h1, h2, h3, h4, h5⟩ := h
  show (((((64 * n) + (8 * o)) / 64) % 4) : Int) = 3
  omega
def xCn3 (l : List CF) : List CF := kn3_0 :: l
def xNn3 (l : List NF) : List NF := mn3_0 :: l
theorem okCn3 (h : Is v u n m o) (hc : n % 4 = 3) {l : List CF} (hl : Al (CFok (sg a0 a1 a2 v u n m o)) l) : Al (CFok (sg a0 a1 a2 v u n m o)) (xCn3 l) := (.cons (cn3_0 h hc) hl)
theorem okNn3 (h : Is v u n m o) (hc : n % 4 = 3) {l : List NF} (hl : Al (NFok (sg a0 a1 a2 v u n m o)) l) : Al (NFok (sg a0 a1 a2 v u n m o)) (xNn3 l) := (.cons (nn3_0 h hc) hl)
def km3_0 : CF := ⟨.eql, (.conv .i64 (.bin .quo .u64 (.conv .u64 (.bin .mul .i64 (.lit 64) (.var 11))) (.lit 64))), (.lit 0), false⟩
theorem cm3_0 (h : Is v u n m o) (hc : m % 4 = 3) : CFok (sg a0 a1 a2 v u n m o) km3_0 := by
  refine CFok.ex (hbd h) rfl rfl ?_
  obtain ⟨v0, v1, u0, u1, h0, h1, h2, h3, h4, h5⟩ := h
  show ((((64 * m) / 64) : Int) == 0) = false
  refine beq_eq_false_iff_ne.2 ?_
  omega
def mm3_0 : NF := ⟨(.bin .rem .i64 (.conv .i64 (.bin .quo .u64 (.conv .u64 (.bin .add .i64 (.bin .mul .i64 (.lit 64) (.var 11)) (.bin .mul .i64 (.lit 8) (.var 12)))) (.lit 64))) (.lit 4)), 3⟩
theorem nm3_0 (h : Is v u n m o) (hc : m % 4 = 3) : NFok (sg a0 a1 a2 v u n m o) mm3_0 := by
  refine NFok.ex (hbd h) rfl ?_
  obtain ⟨v0, v1, u0, u1, h0, h1, h2, h3, h4, h5⟩ := h
  show (((((64 * m) + (8 * o)) / 64) % 4) : Int) = 3
  omega
def xCm3 (l : List CF) : List CF := km3_0 :: l
def xNm3 (l : List NF) : List NF := mm3_0 :: l
theorem okCm3 (h : Is v u n m o) (hc : m % 4 = 3) {l : List CF} (hl : Al (CFok (sg a0 a1 a2 v u n m o)) l) : Al (CFok (sg a0 a1 a2 v u n m o)) (xCm3 l) := (.cons (cm3_0 h hc) hl)
theorem okNm3 (h : Is v u n m o) (hc : m % 4 = 3) {l : List NF} (hl : Al (NFok (sg a0 a1 a2 v u n m o)) l) : Al (NFok (sg a0 a1 a2 v u n m o)) (xNm3 l) := (.cons (nm3_0 h hc) hl)
end
end TopL
