/- TopServed: the facts of numbers that its evaluations want. No conditions beside those in its theorems. -/
import Derived.Test.YtkcnnmpiochaaaaGreatKE11
import Derived.Test.YtkcnnmpiochaaaaGreatKB
set_option linter.unusedVariables false
open Go Eng Go.Proofs Go.RowKit
namespace TopS
open Base
def sg (a0 a1 a2 v x0 x1 x2 x3 x4 x5 x6 n o : Int) : Sig := fun i => match i with | 0 => a0 | 1 => a1 | 2 => a2 | 4 => v | 5 => x0 | 6 => x1 | 7 => x2 | 8 => x3 | 9 => x4 | 20 => x5 | 21 => x6 | 10 => n | 11 => o | _ => 0
def bd (a0 a1 a2 v x0 x1 x2 x3 x4 x5 x6 n o : Int) : Nat → Int × Int := fun i => if i = 10 then (0, 511) else if i = 11 then (0, 7) else if i = 4 then (0, 18446744073709551615) else (sg a0 a1 a2 v x0 x1 x2 x3 x4 x5 x6 n o i, sg a0 a1 a2 v x0 x1 x2 x3 x4 x5 x6 n o i)
structure Is (v n o : Int) : Prop where
  v0 : 0 ≤ v
  v1 : v ≤ 18446744073709551615
  n0 : 0 ≤ n
  n1 : n < 512
  o0 : 0 ≤ o
  o1 : o < 8
theorem hbd {a0 a1 a2 v x0 x1 x2 x3 x4 x5 x6 n o : Int} (h : Is v n o) : ∀ i, (bd a0 a1 a2 v x0 x1 x2 x3 x4 x5 x6 n o i).1 ≤ sg a0 a1 a2 v x0 x1 x2 x3 x4 x5 x6 n o i ∧ sg a0 a1 a2 v x0 x1 x2 x3 x4 x5 x6 n o i ≤ (bd a0 a1 a2 v x0 x1 x2 x3 x4 x5 x6 n o i).2 := by
  obtain ⟨v0, v1, h0, h1, h2, h3⟩ := h
  intro i
  unfold bd
  by_cases e : i = 10
  · subst e; exact ⟨h0, show n ≤ 511 by omega⟩
  · rw [if_neg e]
    by_cases e2 : i = 11
    · subst e2; exact ⟨h2, show o ≤ 7 by omega⟩
    · rw [if_neg e2]
      by_cases e3 : i = 4
      · subst e3; exact ⟨v0, v1⟩
      · rw [if_neg e3]; exact ⟨Int.le_refl _, Int.le_refl _⟩
section
variable {a0 a1 a2 v x0 x1 x2 x3 x4 x5 x6 n o : Int}
def k_0 : CF := ⟨.eql, (.conv .i64 (.bin .quo .u64 (.conv .u64 (.bin .mul .i64 (.lit 64) (.var 10))) (.lit 64))), (.conv .i64 (.bin .quo .u64 (.conv .u64 (.bin .mul .i64 (.lit 64) (.var 10))) (.lit 64))), true⟩
theorem c_0 (h : Is v n o) : CFok (sg a0 a1 a2 v x0 x1 x2 x3 x4 x5 x6 n o) k_0 := by
  refine CFok.ex (hbd h) rfl rfl ?_
  obtain ⟨v0, v1, h0, h1, h2, h3⟩ := h
  show ((((64 * n) / 64) : Int) == ((64 * n) / 64)) = true
  refine beq_iff_eq.2 ?_
  omega
def k_1 : CF := ⟨.eql, (.conv .u64 (.bin .add .i64 (.bin .mul .i64 (.lit 64) (.var 10)) (.bin .mul .i64 (.lit 8) (.var 11)))), (.conv .u64 (.bin .add .i64 (.bin .mul .i64 (.lit 64) (.var 10)) (.bin .mul .i64 (.lit 8) (.var 11)))), true⟩
theorem c_1 (h : Is v n o) : CFok (sg a0 a1 a2 v x0 x1 x2 x3 x4 x5 x6 n o) k_1 := by
  refine CFok.ex (hbd h) rfl rfl ?_
  obtain ⟨v0, v1, h0, h1, h2, h3⟩ := h
  show ((((64 * n) + (8 * o)) : Int) == ((64 * n) + (8 * o))) = true
  refine beq_iff_eq.2 ?_
  omega
def k_2 : CF := ⟨.eql, (.conv .u64 (.bin .add .i64 (.lit 1024) (.bin .mul .i64 (.lit 8) (.bin .rem .i64 (.conv .i64 (.bin .quo .u64 (.conv .u64 (.bin .mul .i64 (.lit 64) (.var 10))) (.lit 64))) (.lit 8))))), (.conv .u64 (.bin .add .i64 (.lit 1024) (.bin .mul .i64 (.lit 8) (.bin .rem .i64 (.conv .i64 (.bin .quo .u64 (.conv .u64 (.bin .add .i64 (.bin .mul .i64 (.lit 64) (.var 10)) (.bin .mul .i64 (.lit 8) (.var 11)))) (.lit 64))) (.lit 8))))), true⟩
theorem c_2 (h : Is v n o) : CFok (sg a0 a1 a2 v x0 x1 x2 x3 x4 x5 x6 n o) k_2 := by
  refine CFok.ex (hbd h) rfl rfl ?_
  obtain ⟨v0, v1, h0, h1, h2, h3⟩ := h
  show (((1024 + (8 * (((64 * n) / 64) % 8))) : Int) == (1024 + (8 * ((((64 * n) + (8 * o)) / 64) % 8)))) = true
  refine beq_iff_eq.2 ?_
  omega
def k_3 : CF := ⟨.eql, (.conv .u64 (.bin .add .i64 (.lit 768) (.bin .mul .i64 (.lit 8) (.bin .rem .i64 (.bin .quo .i64 (.bin .quo .i64 (.conv .i64 (.bin .quo .u64 (.conv .u64 (.bin .mul .i64 (.lit 64) (.var 10))) (.lit 64))) (.lit 8)) (.lit 8)) (.lit 8))))), (.conv .u64 (.bin .add .i64 (.lit 768) (.bin .mul .i64 (.lit 8) (.bin .rem .i64 (.bin .quo .i64 (.bin .quo .i64 (.conv .i64 (.bin .quo .u64 (.conv .u64 (.bin .add .i64 (.bin .mul .i64 (.lit 64) (.var 10)) (.bin .mul .i64 (.lit 8) (.var 11)))) (.lit 64))) (.lit 8)) (.lit 8)) (.lit 8))))), true⟩
theorem c_3 (h : Is v n o) : CFok (sg a0 a1 a2 v x0 x1 x2 x3 x4 x5 x6 n o) k_3 := by
  refine CFok.ex (hbd h) rfl rfl ?_
  obtain ⟨v0, v1, h0, h1, h2, h3⟩ := h
  show (((768 + (8 * (((((64 * n) / 64) / 8) / 8) % 8))) : Int) == (768 + (8 * ((((((64 * n) + (8 * o)) / 64) / 8) / 8) % 8)))) = true
  refine beq_iff_eq.2 ?_
  omega
def k_4 : CF := ⟨.eql, (.conv .u64 (.bin .add .i64 (.lit 960) (.bin .mul .i64 (.lit 8) (.bin .rem .i64 (.bin .quo .i64 (.conv .i64 (.bin .quo .u64 (.conv .u64 (.bin .mul .i64 (.lit 64) (.var 10))) (.lit 64))) (.lit 8)) (.lit 8))))), (.conv .u64 (.bin .add .i64 (.lit 960) (.bin .mul .i64 (.lit 8) (.bin .rem .i64 (.bin .quo .i64 (.conv .i64 (.bin .quo .u64 (.conv .u64 (.bin .add .i64 (.bin .mul .i64 (.lit 64) (.var 10)) (.bin .mul .i64 (.lit 8) (.var 11)))) (.lit 64))) (.lit 8)) (.lit 8))))), true⟩
theorem c_4 (h : Is v n o) : CFok (sg a0 a1 a2 v x0 x1 x2 x3 x4 x5 x6 n o) k_4 := by
  refine CFok.ex (hbd h) rfl rfl ?_
  obtain ⟨v0, v1, h0, h1, h2, h3⟩ := h
  show (((960 + (8 * ((((64 * n) / 64) / 8) % 8))) : Int) == (960 + (8 * (((((64 * n) + (8 * o)) / 64) / 8) % 8)))) = true
  refine beq_iff_eq.2 ?_
  omega
def k_5 : CF := ⟨.eql, (.conv .u64 (.bin .mul .i64 (.lit 64) (.var 10))), (.conv .u64 (.bin .mul .i64 (.lit 64) (.var 10))), true⟩
theorem c_5 (h : Is v n o) : CFok (sg a0 a1 a2 v x0 x1 x2 x3 x4 x5 x6 n o) k_5 := by
  refine CFok.ex (hbd h) rfl rfl ?_
  obtain ⟨v0, v1, h0, h1, h2, h3⟩ := h
  show (((64 * n) : Int) == (64 * n)) = true
  refine beq_iff_eq.2 ?_
  omega
def k_6 : CF := ⟨.eql, (.var 4), (.var 4), true⟩
theorem c_6 (h : Is v n o) : CFok (sg a0 a1 a2 v x0 x1 x2 x3 x4 x5 x6 n o) k_6 := by
  show cmpDen .eql _ _ = true
  simp [cmpDen, k_6]
def k_7 : CF := ⟨.geq, (.conv .i64 (.bin .quo .u64 (.conv .u64 (.bin .add .i64 (.bin .mul .i64 (.lit 64) (.var 10)) (.bin .mul .i64 (.lit 8) (.var 11)))) (.lit 64))), (.lit 512), false⟩
theorem c_7 (h : Is v n o) : CFok (sg a0 a1 a2 v x0 x1 x2 x3 x4 x5 x6 n o) k_7 := by
  refine CFok.ex (hbd h) rfl rfl ?_
  obtain ⟨v0, v1, h0, h1, h2, h3⟩ := h
  show decide (((((64 * n) + (8 * o)) / 64) : Int) ≥ 512) = false
  refine decide_eq_false ?_
  omega
def k_8 : CF := ⟨.geq, (.conv .i64 (.bin .quo .u64 (.conv .u64 (.bin .mul .i64 (.lit 64) (.var 10))) (.lit 64))), (.lit 0), true⟩
theorem c_8 (h : Is v n o) : CFok (sg a0 a1 a2 v x0 x1 x2 x3 x4 x5 x6 n o) k_8 := by
  refine CFok.ex (hbd h) rfl rfl ?_
  obtain ⟨v0, v1, h0, h1, h2, h3⟩ := h
  show decide ((((64 * n) / 64) : Int) ≥ 0) = true
  refine decide_eq_true ?_
  omega
def k_9 : CF := ⟨.geq, (.conv .i64 (.bin .quo .u64 (.conv .u64 (.bin .mul .i64 (.lit 64) (.var 10))) (.lit 64))), (.lit 512), false⟩
theorem c_9 (h : Is v n o) : CFok (sg a0 a1 a2 v x0 x1 x2 x3 x4 x5 x6 n o) k_9 := by
  refine CFok.ex (hbd h) rfl rfl ?_
  obtain ⟨v0, v1, h0, h1, h2, h3⟩ := h
  show decide ((((64 * n) / 64) : Int) ≥ 512) = false
  refine decide_eq_false ?_
  omega
def k_10 : CF := ⟨.geq, (.conv .u64 (.bin .add .i64 (.bin .mul .i64 (.lit 64) (.var 10)) (.bin .mul .i64 (.lit 8) (.var 11)))), (.lit 32768), false⟩
theorem c_10 (h : Is v n o) : CFok (sg a0 a1 a2 v x0 x1 x2 x3 x4 x5 x6 n o) k_10 := by
  refine CFok.ex (hbd h) rfl rfl ?_
  obtain ⟨v0, v1, h0, h1, h2, h3⟩ := h
  show decide ((((64 * n) + (8 * o)) : Int) ≥ 32768) = false
  refine decide_eq_false ?_
  omega
def k_11 : CF := ⟨.geq, (.conv .u64 (.bin .mul .i64 (.lit 64) (.var 10))), (.lit 32768), false⟩
theorem c_11 (h : Is v n o) : CFok (sg a0 a1 a2 v x0 x1 x2 x3 x4 x5 x6 n o) k_11 := by
  refine CFok.ex (hbd h) rfl rfl ?_
  obtain ⟨v0, v1, h0, h1, h2, h3⟩ := h
  show decide (((64 * n) : Int) ≥ 32768) = false
  refine decide_eq_false ?_
  omega
def k_12 : CF := ⟨.gtr, (.conv .u64 (.bin .mul .i64 (.lit 64) (.var 10))), (.lit 18446744073709551615), false⟩
theorem c_12 (h : Is v n o) : CFok (sg a0 a1 a2 v x0 x1 x2 x3 x4 x5 x6 n o) k_12 := by
  refine CFok.ex (hbd h) rfl rfl ?_
  obtain ⟨v0, v1, h0, h1, h2, h3⟩ := h
  show decide (((64 * n) : Int) > 18446744073709551615) = false
  refine decide_eq_false ?_
  omega
def k_13 : CF := ⟨.gtr, (.var 4), (.lit 18446744073709551615), false⟩
theorem c_13 (h : Is v n o) : CFok (sg a0 a1 a2 v x0 x1 x2 x3 x4 x5 x6 n o) k_13 := by
  refine CFok.ex (hbd h) rfl rfl ?_
  obtain ⟨v0, v1, h0, h1, h2, h3⟩ := h
  show decide ((v : Int) > 18446744073709551615) = false
  refine decide_eq_false ?_
  omega
def k_14 : CF := ⟨.leq, (.conv .i64 (.bin .quo .u64 (.conv .u64 (.bin .mul .i64 (.lit 64) (.var 10))) (.lit 64))), (.lit 511), true⟩
theorem c_14 (h : Is v n o) : CFok (sg a0 a1 a2 v x0 x1 x2 x3 x4 x5 x6 n o) k_14 := by
  refine CFok.ex (hbd h) rfl rfl ?_
  obtain ⟨v0, v1, h0, h1, h2, h3⟩ := h
  show decide ((((64 * n) / 64) : Int) ≤ 511) = true
  refine decide_eq_true ?_
  omega
def k_15 : CF := ⟨.lss, (.conv .i64 (.bin .quo .u64 (.conv .u64 (.bin .add .i64 (.bin .mul .i64 (.lit 64) (.var 10)) (.bin .mul .i64 (.lit 8) (.var 11)))) (.lit 64))), (.lit 0), false⟩
theorem c_15 (h : Is v n o) : CFok (sg a0 a1 a2 v x0 x1 x2 x3 x4 x5 x6 n o) k_15 := by
  refine CFok.ex (hbd h) rfl rfl ?_
  obtain ⟨v0, v1, h0, h1, h2, h3⟩ := h
  show decide (((((64 * n) + (8 * o)) / 64) : Int) < 0) = false
  refine decide_eq_false ?_
  omega
def k_16 : CF := ⟨.lss, (.conv .i64 (.bin .quo .u64 (.conv .u64 (.bin .mul .i64 (.lit 64) (.var 10))) (.lit 64))), (.lit 0), false⟩
theorem c_16 (h : Is v n o) : CFok (sg a0 a1 a2 v x0 x1 x2 x3 x4 x5 x6 n o) k_16 := by
  refine CFok.ex (hbd h) rfl rfl ?_
  obtain ⟨v0, v1, h0, h1, h2, h3⟩ := h
  show decide ((((64 * n) / 64) : Int) < 0) = false
  refine decide_eq_false ?_
  omega
def k_17 : CF := ⟨.lss, (.conv .u64 (.bin .mul .i64 (.lit 64) (.var 10))), (.lit 0), false⟩
theorem c_17 (h : Is v n o) : CFok (sg a0 a1 a2 v x0 x1 x2 x3 x4 x5 x6 n o) k_17 := by
  refine CFok.ex (hbd h) rfl rfl ?_
  obtain ⟨v0, v1, h0, h1, h2, h3⟩ := h
  show decide (((64 * n) : Int) < 0) = false
  refine decide_eq_false ?_
  omega
def k_18 : CF := ⟨.lss, (.var 4), (.lit 0), false⟩
theorem c_18 (h : Is v n o) : CFok (sg a0 a1 a2 v x0 x1 x2 x3 x4 x5 x6 n o) k_18 := by
  refine CFok.ex (hbd h) rfl rfl ?_
  obtain ⟨v0, v1, h0, h1, h2, h3⟩ := h
  show decide ((v : Int) < 0) = false
  refine decide_eq_false ?_
  omega
def k_19 : CF := ⟨.neq, (.bin .rem .u64 (.conv .u64 (.bin .add .i64 (.bin .mul .i64 (.lit 64) (.var 10)) (.bin .mul .i64 (.lit 8) (.var 11)))) (.lit 8)), (.lit 0), false⟩
theorem c_19 (h : Is v n o) : CFok (sg a0 a1 a2 v x0 x1 x2 x3 x4 x5 x6 n o) k_19 := by
  refine CFok.ex (hbd h) rfl rfl ?_
  obtain ⟨v0, v1, h0, h1, h2, h3⟩ := h
  show (((((64 * n) + (8 * o)) % 8) : Int) != 0) = false
  refine bne_eq_false_iff_eq.2 ?_
  omega
def k_20 : CF := ⟨.neq, (.bin .rem .u64 (.conv .u64 (.bin .mul .i64 (.lit 64) (.var 10))) (.lit 64)), (.lit 0), false⟩
theorem c_20 (h : Is v n o) : CFok (sg a0 a1 a2 v x0 x1 x2 x3 x4 x5 x6 n o) k_20 := by
  refine CFok.ex (hbd h) rfl rfl ?_
  obtain ⟨v0, v1, h0, h1, h2, h3⟩ := h
  show ((((64 * n) % 64) : Int) != 0) = false
  refine bne_eq_false_iff_eq.2 ?_
  omega
def m_0 : NF := ⟨(.bin .quo .u64 (.conv .u64 (.bin .add .i64 (.lit 1024) (.bin .mul .i64 (.lit 8) (.bin .rem .i64 (.conv .i64 (.bin .quo .u64 (.conv .u64 (.bin .add .i64 (.bin .mul .i64 (.lit 64) (.var 10)) (.bin .mul .i64 (.lit 8) (.var 11)))) (.lit 64))) (.lit 8))))) (.lit 64)), 16⟩
theorem n_0 (h : Is v n o) : NFok (sg a0 a1 a2 v x0 x1 x2 x3 x4 x5 x6 n o) m_0 := by
  refine NFok.ex (hbd h) rfl ?_
  obtain ⟨v0, v1, h0, h1, h2, h3⟩ := h
  show (((1024 + (8 * ((((64 * n) + (8 * o)) / 64) % 8))) / 64) : Int) = 16
  omega
def m_1 : NF := ⟨(.bin .quo .u64 (.conv .u64 (.bin .add .i64 (.lit 1024) (.bin .mul .i64 (.lit 8) (.bin .rem .i64 (.conv .i64 (.bin .quo .u64 (.conv .u64 (.bin .mul .i64 (.lit 64) (.var 10))) (.lit 64))) (.lit 8))))) (.lit 64)), 16⟩
theorem n_1 (h : Is v n o) : NFok (sg a0 a1 a2 v x0 x1 x2 x3 x4 x5 x6 n o) m_1 := by
  refine NFok.ex (hbd h) rfl ?_
  obtain ⟨v0, v1, h0, h1, h2, h3⟩ := h
  show (((1024 + (8 * (((64 * n) / 64) % 8))) / 64) : Int) = 16
  omega
def m_2 : NF := ⟨(.bin .quo .u64 (.conv .u64 (.bin .add .i64 (.lit 1088) (.conv .i64 (.bin .and .u64 (.bin .shr .u64 (.conv .u64 (.bin .add .i64 (.bin .mul .i64 (.lit 64) (.var 10)) (.bin .mul .i64 (.lit 8) (.var 11)))) (.lit 0)) (.lit 63))))) (.lit 64)), 17⟩
theorem n_2 (h : Is v n o) : NFok (sg a0 a1 a2 v x0 x1 x2 x3 x4 x5 x6 n o) m_2 := by
  refine NFok.ex (hbd h) rfl ?_
  obtain ⟨v0, v1, h0, h1, h2, h3⟩ := h
  show (((1088 + ((((64 * n) + (8 * o)) / 1) % (63 + 1))) / 64) : Int) = 17
  omega
def m_3 : NF := ⟨(.bin .quo .u64 (.conv .u64 (.bin .add .i64 (.lit 768) (.bin .mul .i64 (.lit 8) (.bin .rem .i64 (.bin .quo .i64 (.bin .quo .i64 (.conv .i64 (.bin .quo .u64 (.conv .u64 (.bin .add .i64 (.bin .mul .i64 (.lit 64) (.var 10)) (.bin .mul .i64 (.lit 8) (.var 11)))) (.lit 64))) (.lit 8)) (.lit 8)) (.lit 8))))) (.lit 64)), 12⟩
theorem n_3 (h : Is v n o) : NFok (sg a0 a1 a2 v x0 x1 x2 x3 x4 x5 x6 n o) m_3 := by
  refine NFok.ex (hbd h) rfl ?_
  obtain ⟨v0, v1, h0, h1, h2, h3⟩ := h
  show (((768 + (8 * ((((((64 * n) + (8 * o)) / 64) / 8) / 8) % 8))) / 64) : Int) = 12
  omega
def m_4 : NF := ⟨(.bin .quo .u64 (.conv .u64 (.bin .add .i64 (.lit 768) (.bin .mul .i64 (.lit 8) (.bin .rem .i64 (.bin .quo .i64 (.bin .quo .i64 (.conv .i64 (.bin .quo .u64 (.conv .u64 (.bin .mul .i64 (.lit 64) (.var 10))) (.lit 64))) (.lit 8)) (.lit 8)) (.lit 8))))) (.lit 64)), 12⟩
theorem n_4 (h : Is v n o) : NFok (sg a0 a1 a2 v x0 x1 x2 x3 x4 x5 x6 n o) m_4 := by
  refine NFok.ex (hbd h) rfl ?_
  obtain ⟨v0, v1, h0, h1, h2, h3⟩ := h
  show (((768 + (8 * (((((64 * n) / 64) / 8) / 8) % 8))) / 64) : Int) = 12
  omega
def m_5 : NF := ⟨(.bin .quo .u64 (.conv .u64 (.bin .add .i64 (.lit 960) (.bin .mul .i64 (.lit 8) (.bin .rem .i64 (.bin .quo .i64 (.conv .i64 (.bin .quo .u64 (.conv .u64 (.bin .add .i64 (.bin .mul .i64 (.lit 64) (.var 10)) (.bin .mul .i64 (.lit 8) (.var 11)))) (.lit 64))) (.lit 8)) (.lit 8))))) (.lit 64)), 15⟩
theorem n_5 (h : Is v n o) : NFok (sg a0 a1 a2 v x0 x1 x2 x3 x4 x5 x6 n o) m_5 := by
  refine NFok.ex (hbd h) rfl ?_
  obtain ⟨v0, v1, h0, h1, h2, h3⟩ := h
  show (((960 + (8 * (((((64 * n) + (8 * o)) / 64) / 8) % 8))) / 64) : Int) = 15
  omega
def m_6 : NF := ⟨(.bin .quo .u64 (.conv .u64 (.bin .add .i64 (.lit 960) (.bin .mul .i64 (.lit 8) (.bin .rem .i64 (.bin .quo .i64 (.conv .i64 (.bin .quo .u64 (.conv .u64 (.bin .mul .i64 (.lit 64) (.var 10))) (.lit 64))) (.lit 8)) (.lit 8))))) (.lit 64)), 15⟩
theorem n_6 (h : Is v n o) : NFok (sg a0 a1 a2 v x0 x1 x2 x3 x4 x5 x6 n o) m_6 := by
  refine NFok.ex (hbd h) rfl ?_
  obtain ⟨v0, v1, h0, h1, h2, h3⟩ := h
  show (((960 + (8 * ((((64 * n) / 64) / 8) % 8))) / 64) : Int) = 15
  omega
def m_7 : NF := ⟨(.bin .rem .u64 (.conv .u64 (.bin .add .i64 (.lit 1024) (.bin .mul .i64 (.lit 8) (.bin .rem .i64 (.conv .i64 (.bin .quo .u64 (.conv .u64 (.bin .add .i64 (.bin .mul .i64 (.lit 64) (.var 10)) (.bin .mul .i64 (.lit 8) (.var 11)))) (.lit 64))) (.lit 8))))) (.lit 8)), 0⟩
theorem n_7 (h : Is v n o) : NFok (sg a0 a1 a2 v x0 x1 x2 x3 x4 x5 x6 n o) m_7 := by
  refine NFok.ex (hbd h) rfl ?_
  obtain ⟨v0, v1, h0, h1, h2, h3⟩ := h
  show (((1024 + (8 * ((((64 * n) + (8 * o)) / 64) % 8))) % 8) : Int) = 0
  omega
def m_8 : NF := ⟨(.bin .rem .u64 (.conv .u64 (.bin .add .i64 (.lit 1024) (.bin .mul .i64 (.lit 8) (.bin .rem .i64 (.conv .i64 (.bin .quo .u64 (.conv .u64 (.bin .mul .i64 (.lit 64) (.var 10))) (.lit 64))) (.lit 8))))) (.lit 8)), 0⟩
theorem n_8 (h : Is v n o) : NFok (sg a0 a1 a2 v x0 x1 x2 x3 x4 x5 x6 n o) m_8 := by
  refine NFok.ex (hbd h) rfl ?_
  obtain ⟨v0, v1, h0, h1, h2, h3⟩ := h
  show (((1024 + (8 * (((64 * n) / 64) % 8))) % 8) : Int) = 0
  omega
def m_9 : NF := ⟨(.bin .rem .u64 (.conv .u64 (.bin .add .i64 (.lit 1088) (.conv .i64 (.bin .and .u64 (.bin .shr .u64 (.conv .u64 (.bin .add .i64 (.bin .mul .i64 (.lit 64) (.var 10)) (.bin .mul .i64 (.lit 8) (.var 11)))) (.lit 0)) (.lit 63))))) (.lit 8)), 0⟩
theorem n_9 (h : Is v n o) : NFok (sg a0 a1 a2 v x0 x1 x2 x3 x4 x5 x6 n o) m_9 := by
  refine NFok.ex (hbd h) rfl ?_
  obtain ⟨v0, v1, h0, h1, h2, h3⟩ := h
  show (((1088 + ((((64 * n) + (8 * o)) / 1) % (63 + 1))) % 8) : Int) = 0
  omega
def m_10 : NF := ⟨(.bin .rem .u64 (.conv .u64 (.bin .add .i64 (.lit 768) (.bin .mul .i64 (.lit 8) (.bin .rem .i64 (.bin .quo .i64 (.bin .quo .i64 (.conv .i64 (.bin .quo .u64 (.conv .u64 (.bin .add .i64 (.bin .mul .i64 (.lit 64) (.var 10)) (.bin .mul .i64 (.lit 8) (.var 11)))) (.lit 64))) (.lit 8)) (.lit 8)) (.lit 8))))) (.lit 8)), 0⟩
theorem n_10 (h : Is v n o) : NFok (sg a0 a1 a2 v x0 x1 x2 x3 x4 x5 x6 n o) m_10 := by
  refine NFok.ex (hbd h) rfl ?_
  obtain ⟨v0, v1, h0, h1, h2, h3⟩ := h
  show (((768 + (8 * ((((((64 * n) + (8 * o)) / 64) / 8) / 8) % 8))) % 8) : Int) = 0
  omega
def m_11 : NF := ⟨(.bin .rem .u64 (.conv .u64 (.bin .add .i64 (.lit 768) (.bin .mul .i64 (.lit 8) (.bin .rem .i64 (.bin .quo .i64 (.bin .quo .i64 (.conv .i64 (.bin .quo .u64 (.conv .u64 (.bin .mul .i64 (.lit 64) (.var 10))) (.lit 64))) (.lit 8)) (.lit 8)) (.lit 8))))) (.lit 8)), 0⟩
theorem n_11 (h : Is v n o) : NFok (sg a0 a1 a2 v x0 x1 x2 x3 x4 x5 x6 n o) m_11 := by
  refine NFok.ex (hbd h) rfl ?_
  obtain ⟨v0, v1, h0, h1, h2, h3⟩ := h
  show (((768 + (8 * (((((64 * n) / 64) / 8) / 8) % 8))) % 8) : Int) = 0
  omega
def m_12 : NF := ⟨(.bin .rem .u64 (.conv .u64 (.bin .add .i64 (.lit 960) (.bin .mul .i64 (.lit 8) (.bin .rem .i64 (.bin .quo .i64 (.conv .i64 (.bin .quo .u64 (.conv .u64 (.bin .add .i64 (.bin .mul .i64 (.lit 64) (.var 10)) (.bin .mul .i64 (.lit 8) (.var 11)))) (.lit 64))) (.lit 8)) (.lit 8))))) (.lit 8)), 0⟩
theorem n_12 (h : Is v n o) : NFok (sg a0 a1 a2 v x0 x1 x2 x3 x4 x5 x6 n o) m_12 := by
  refine NFok.ex (hbd h) rfl ?_
  obtain ⟨v0, v1, h0, h1, h2, h3⟩ := h
  show (((960 + (8 * (((((64 * n) + (8 * o)) / 64) / 8) % 8))) % 8) : Int) = 0
  omega
def m_13 : NF := ⟨(.bin .rem .u64 (.conv .u64 (.bin .add .i64 (.lit 960) (.bin .mul .i64 (.lit 8) (.bin .rem .i64 (.bin .quo .i64 (.conv .i64 (.bin .quo .u64 (.conv .u64 (.bin .mul .i64 (.lit 64) (.var 10))) (.lit 64))) (.lit 8)) (.lit 8))))) (.lit 8)), 0⟩
theorem n_13 (h : Is v n o) : NFok (sg a0 a1 a2 v x0 x1 x2 x3 x4 x5 x6 n o) m_13 := by
  refine NFok.ex (hbd h) rfl ?_
  obtain ⟨v0, v1, h0, h1, h2, h3⟩ := h
  show (((960 + (8 * ((((64 * n) / 64) / 8) % 8))) % 8) : Int) = 0
  omega
def lC : List CF := [k_0, k_1, k_2, k_3, k_4, k_5, k_6, k_7, k_8, k_9, k_10, k_11, k_12, k_13, k_14, k_15, k_16, k_17, k_18, k_19, k_20]
def lN : List NF := [m_0, m_1, m_2, m_3, m_4, m_5, m_6, m_7, m_8, m_9, m_10, m_11, m_12, m_13]
theorem okC (h : Is v n o) : Al (CFok (sg a0 a1 a2 v x0 x1 x2 x3 x4 x5 x6 n o)) lC := (.cons (c_0 h) (.cons (c_1 h) (.cons (c_2 h) (.cons (c_3 h) (.cons (c_4 h) (.cons (c_5 h) (.cons (c_6 h) (.cons (c_7 h) (.cons (c_8 h) (.cons (c_9 h) (.cons (c_10 h) (.cons (c_11 h) (.cons (c_12 h) (.cons (c_13 h) (.cons (c_14 h) (.cons (c_15 h) (.cons (c_16 h) (.cons (c_17 h) (.cons (c_18 h) (.cons (c_19 h) (.cons (c_20 h) .nil)))))))))))))))))))))
theorem okN (h : Is v n o) : Al (NFok (sg a0 a1 a2 v x0 x1 x2 x3 x4 x5 x6 n o)) lN := (.cons (n_0 h) (.cons (n_1 h) (.cons (n_2 h) (.cons (n_3 h) (.cons (n_4 h) (.cons (n_5 h) (.cons (n_6 h) (.cons (n_7 h) (.cons (n_8 h) (.cons (n_9 h) (.cons (n_10 h) (.cons (n_11 h) (.cons (n_12 h) (.cons (n_13 h) .nil))))))))))))))
def knz_0 : CF := ⟨.eql, (.conv .i64 (.bin .quo .u64 (.conv .u64 (.bin .mul .i64 (.lit 64) (.var 10))) (.lit 64))), (.lit 0), true⟩
theorem cnz_0 (h : Is v n o) (hc : n = 0) : CFok (sg a0 a1 a2 v x0 x1 x2 x3 x4 x5 x6 n o) knz_0 := by
  refine CFok.ex (hbd h) rfl rfl ?_
  obtain ⟨v0, v1, h0, h1, h2, h3⟩ := h
  show ((((64 * n) / 64) : Int) == 0) = true
  refine beq_iff_eq.2 ?_
  omega
def mnz_0 : NF := ⟨(.bin .rem .i64 (.conv .i64 (.bin .quo .u64 (.conv .u64 (.bin .add .i64 (.bin .mul .i64 (.lit 64) (.var 10)) (.bin .mul .i64 (.lit 8) (.var 11)))) (.lit 64))) (.lit 4)), 0⟩
theorem nnz_0 (h : Is v n o) (hc : n = 0) : NFok (sg a0 a1 a2 v x0 x1 x2 x3 x4 x5 x6 n o) mnz_0 := by
  refine NFok.ex (hbd h) rfl ?_
  obtain ⟨v0, v1, h0, h1, h2, h3⟩ := h
  show (((((64 * n) + (8 * o)) / 64) % 4) : Int) = 0
  omega
def xCnz (l : List CF) : List CF := knz_0 :: l
def xNnz (l : List NF) : List NF := mnz_0 :: l
theorem okCnz (h : Is v n o) (hc : n = 0) {l : List CF} (hl : Al (CFok (sg a0 a1 a2 v x0 x1 x2 x3 x4 x5 x6 n o)) l) : Al (CFok (sg a0 a1 a2 v x0 x1 x2 x3 x4 x5 x6 n o)) (xCnz l) := (.cons (cnz_0 h hc) hl)
theorem okNnz (h : Is v n o) (hc : n = 0) {l : List NF} (hl : Al (NFok (sg a0 a1 a2 v x0 x1 x2 x3 x4 x5 x6 n o)) l) : Al (NFok (sg a0 a1 a2 v x0 x1 x2 x3 x4 x5 x6 n o)) (xNnz l) := (.cons (nnz_0 h hc) hl)
def kn0_0 : CF := ⟨.eql, (.conv .i64 (.bin .quo .u64 (.conv .u64 (.bin .mul .i64 (.lit 64) (.var 10))) (.lit 64))), (.lit 0), false⟩
theorem cn0_0 (h : Is v n o) (hc : n % 4 = 0 ∧ 0 < n) : CFok (sg a0 a1 a2 v x0 x1 x2 x3 x4 x5 x6 n o) kn0_0 := by
  refine CFok.ex (hbd h) rfl rfl ?_
  obtain ⟨v0, v1, h0, h1, h2, h3⟩ := h
  show ((((64 * n) / 64) : Int) == 0) = false
  refine beq_eq_false_iff_ne.2 ?_
  omega
def mn0_0 : NF := ⟨(.bin .rem .i64 (.conv .i64 (.bin .quo .u64 (.conv .u64 (.bin .add .i64 (.bin .mul .i64 (.lit 64) (.var 10)) (.bin .mul .i64 (.lit 8) (.var 11)))) (.lit 64))) (.lit 4)), 0⟩
theorem nn0_0 (h : Is v n o) (hc : n % 4 = 0 ∧ 0 < n) : NFok (sg a0 a1 a2 v x0 x1 x2 x3 x4 x5 x6 n o) mn0_0 := by
  refine NFok.ex (hbd h) rfl ?_
  obtain ⟨v0, v1, h0, h1, h2, h3⟩ := h
  show (((((64 * n) + (8 * o)) / 64) % 4) : Int) = 0
  omega
def xCn0 (l : List CF) : List CF := kn0_0 :: l
def xNn0 (l : List NF) : List NF := mn0_0 :: l
theorem okCn0 (h : Is v n o) (hc : n % 4 = 0 ∧ 0 < n) {l : List CF} (hl : Al (CFok (sg a0 a1 a2 v x0 x1 x2 x3 x4 x5 x6 n o)) l) : Al (CFok (sg a0 a1 a2 v x0 x1 x2 x3 x4 x5 x6 n o)) (xCn0 l) := (.cons (cn0_0 h hc) hl)
theorem okNn0 (h : Is v n o) (hc : n % 4 = 0 ∧ 0 < n) {l : List NF} (hl : Al (NFok (sg a0 a1 a2 v x0 x1 x2 x3 x4 x5 x6 n o)) l) : Al (NFok (sg a0 a1 a2 v x0 x1 x2 x3 x4 x5 x6 n o)) (xNn0 l) := (.cons (nn0_0 h hc) hl)
def kn1_0 : CF := ⟨.eql, (.conv .i64 (.bin .quo .u64 (.conv .u64 (.bin .mul .i64 (.lit 64) (.var 10))) (.lit 64))), (.lit 0), false⟩
theorem cn1_0 (h : Is v n o) (hc : n % 4 = 1) : CFok (sg a0 a1 a2 v x0 x1 x2 x3 x4 x5 x6 n o) kn1_0 := by
  refine CFok.ex (hbd h) rfl rfl ?_
  obtain ⟨v0, v1, h0, h1, h2, h3⟩ := h
  show ((((64 * n) / 64) : Int) == 0) = false
  refine beq_eq_false_iff_ne.2 ?_
  omega
def mn1_0 : NF := ⟨(.bin .rem .i64 (.conv .i64 (.bin .quo .u64 (.conv .u64 (.bin .add .i64 (.bin .mul .i64 (.lit 64) (.var 10)) (.bin .mul .i64 (.lit 8) (.var 11)))) (.lit 64))) (.lit 4)), 1⟩
theorem nn1_0 (h : Is v n o) (hc : n % 4 = 1) : NFok (sg a0 a1 a2 v x0 x1 x2 x3 x4 x5 x6 n o) mn1_0 := by
  refine NFok.ex (hbd h) rfl ?_
  obtain ⟨v0, v1, h0, h1, h2, h3⟩ := h
  show (((((64 * n) + (8 * o)) / 64) % 4) : Int) = 1
  omega
def xCn1 (l : List CF) : List CF := kn1_0 :: l
def xNn1 (l : List NF) : List NF := mn1_0 :: l
theorem okCn1 (h : Is v n o) (hc : n % 4 = 1) {l : List CF} (hl : Al (CFok (sg a0 a1 a2 v x0 x1 x2 x3 x4 x5 x6 n o)) l) : Al (CFok (sg a0 a1 a2 v x0 x1 x2 x3 x4 x5 x6 n o)) (xCn1 l) := (.cons (cn1_0 h hc) hl)
theorem okNn1 (h : Is v n o) (hc : n % 4 = 1) {l : List NF} (hl : Al (NFok (sg a0 a1 a2 v x0 x1 x2 x3 x4 x5 x6 n o)) l) : Al (NFok (sg a0 a1 a2 v x0 x1 x2 x3 x4 x5 x6 n o)) (xNn1 l) := (.cons (nn1_0 h hc) hl)
def kn2_0 : CF := ⟨.eql, (.conv .i64 (.bin .quo .u64 (.conv .u64 (.bin .mul .i64 (.lit 64) (.var 10))) (.lit 64))), (.lit 0), false⟩
theorem cn2_0 (h : Is v n o) (hc : n % 4 = 2) : CFok (sg a0 a1 a2 v x0 x1 x2 x3 x4 x5 x6 n o) kn2_0 := by
  refine CFok.ex (hbd h) rfl rfl ?_
  obtain ⟨v0, v1, h0, h1, h2, h3⟩ := h
  show ((((64 * n) / 64) : Int) == 0) = false
  refine beq_eq_false_iff_ne.2 ?_
  omega
def mn2_0 : NF := ⟨(.bin .rem .i64 (.conv .i64 (.bin .quo .u64 (.conv .u64 (.bin .add .i64 (.bin .mul .i64 (.lit 64) (.var 10)) (.bin .mul .i64 (.lit 8) (.var 11)))) (.lit 64))) (.lit 4)), 2⟩
theorem nn2_0 (h : Is v n o) (hc : n % 4 = 2) : NFok (sg a0 a1 a2 v x0 x1 x2 x3 x4 x5 x6 n o) mn2_0 := by
  refine NFok.ex (hbd h) rfl ?_
  obtain ⟨v0, v1, h0, h1, h2, h3⟩ := h
  show (((((64 * n) + (8 * o)) / 64) % 4) : Int) = 2
  omega
def xCn2 (l : List CF) : List CF := kn2_0 :: l
def xNn2 (l : List NF) : List NF := mn2_0 :: l
theorem okCn2 (h : Is v n o) (hc : n % 4 = 2) {l : List CF} (hl : Al (CFok (sg a0 a1 a2 v x0 x1 x2 x3 x4 x5 x6 n o)) l) : Al (CFok (sg a0 a1 a2 v x0 x1 x2 x3 x4 x5 x6 n o)) (xCn2 l) := (.cons (cn2_0 h hc) hl)
theorem okNn2 (h : Is v n o) (hc : n % 4 = 2) {l : List NF} (hl : Al (NFok (sg a0 a1 a2 v x0 x1 x2 x3 x4 x5 x6 n o)) l) : Al (NFok (sg a0 a1 a2 v x0 x1 x2 x3 x4 x5 x6 n o)) (xNn2 l) := (.cons (nn2_0 h hc) hl)
def kn3_0 : CF := ⟨.eql, (.conv .i64 (.bin .quo .u64 (.conv .u64 (.bin .mul .i64 (.lit 64) (.var 10))) (.lit 64))), (.lit 0), false⟩
theorem cn3_0 (h : Is v n o) (hc : n % 4 = 3) : CFok (sg a0 a1 a2 v x0 x1 x2 x3 x4 x5 x6 n o) kn3_0 := by
  refine CFok.ex (hbd h) rfl rfl ?_
  obtain ⟨v0, v1, h0, h1, h2, h3⟩ := h
  show ((((64 * n) / 64) : Int) == 0) = false
  refine beq_eq_false_iff_ne.2 ?_
  omega
def mn3_0 : NF := ⟨(.bin .rem .i64 (.conv .i64 (.bin .quo .u64 (.conv .u64 (.bin .add .i64 (.bin .mul .i64 (.lit 64) (.var 10)) (.bin .mul .i64 (.lit 8) (.var 11)))) (.lit 64))) (.lit 4)), 3⟩
theorem nn3_0 (h : Is v n o) (hc : n % 4 = 3) : NFok (sg a0 a1 a2 v x0 x1 x2 x3 x4 x5 x6 n o) mn3_0 := by
  refine NFok.ex (hbd h) rfl ?_
  obtain ⟨v0, v1, h0, h1, h2, h3⟩ := h
  show (((((64 * n) + (8 * o)) / 64) % 4) : Int) = 3
  omega
def xCn3 (l : List CF) : List CF := kn3_0 :: l
def xNn3 (l : List NF) : List NF := mn3_0 :: l
theorem okCn3 (h : Is v n o) (hc : n % 4 = 3) {l : List CF} (hl : Al (CFok (sg a0 a1 a2 v x0 x1 x2 x3 x4 x5 x6 n o)) l) : Al (CFok (sg a0 a1 a2 v x0 x1 x2 x3 x4 x5 x6 n o)) (xCn3 l) := (.cons (cn3_0 h hc) hl)
theorem okNn3 (h : Is v n o) (hc : n % 4 = 3) {l : List NF} (hl : Al (NFok (sg a0 a1 a2 v x0 x1 x2 x3 x4 x5 x6 n o)) l) : Al (NFok (sg a0 a1 a2 v x0 x1 x2 x3 x4 x5 x6 n o)) (xNn3 l) := (.cons (nn3_0 h hc) hl)
def ko0_0 : CF := ⟨.eql, (.conv .u64 (.bin .add .i64 (.lit 1088) (.conv .i64 (.bin .and .u64 (.bin .shr .u64 (.conv .u64 (.bin .add .i64 (.bin .mul .i64 (.lit 64) (.var 10)) (.bin .mul .i64 (.lit 8) (.var 11)))) (.lit 0)) (.lit 63))))), (.lit 1088), true⟩
theorem co0_0 (h : Is v n o) (hc : o = 0) : CFok (sg a0 a1 a2 v x0 x1 x2 x3 x4 x5 x6 n o) ko0_0 := by
  refine CFok.ex (hbd h) rfl rfl ?_
  obtain ⟨v0, v1, h0, h1, h2, h3⟩ := h
  show (((1088 + ((((64 * n) + (8 * o)) / 1) % (63 + 1))) : Int) == 1088) = true
  refine beq_iff_eq.2 ?_
  omega
def ko0_1 : CF := ⟨.eql, (.conv .u64 (.bin .add .i64 (.lit 1088) (.conv .i64 (.bin .and .u64 (.bin .shr .u64 (.conv .u64 (.bin .add .i64 (.bin .mul .i64 (.lit 64) (.var 10)) (.bin .mul .i64 (.lit 8) (.var 11)))) (.lit 0)) (.lit 63))))), (.lit 1096), false⟩
theorem co0_1 (h : Is v n o) (hc : o = 0) : CFok (sg a0 a1 a2 v x0 x1 x2 x3 x4 x5 x6 n o) ko0_1 := by
  refine CFok.ex (hbd h) rfl rfl ?_
  obtain ⟨v0, v1, h0, h1, h2, h3⟩ := h
  show (((1088 + ((((64 * n) + (8 * o)) / 1) % (63 + 1))) : Int) == 1096) = false
  refine beq_eq_false_iff_ne.2 ?_
  omega
def ko0_2 : CF := ⟨.eql, (.conv .u64 (.bin .add .i64 (.lit 1088) (.conv .i64 (.bin .and .u64 (.bin .shr .u64 (.conv .u64 (.bin .add .i64 (.bin .mul .i64 (.lit 64) (.var 10)) (.bin .mul .i64 (.lit 8) (.var 11)))) (.lit 0)) (.lit 63))))), (.lit 1104), false⟩
theorem co0_2 (h : Is v n o) (hc : o = 0) : CFok (sg a0 a1 a2 v x0 x1 x2 x3 x4 x5 x6 n o) ko0_2 := by
  refine CFok.ex (hbd h) rfl rfl ?_
  obtain ⟨v0, v1, h0, h1, h2, h3⟩ := h
  show (((1088 + ((((64 * n) + (8 * o)) / 1) % (63 + 1))) : Int) == 1104) = false
  refine beq_eq_false_iff_ne.2 ?_
  omega
def ko0_3 : CF := ⟨.eql, (.conv .u64 (.bin .add .i64 (.lit 1088) (.conv .i64 (.bin .and .u64 (.bin .shr .u64 (.conv .u64 (.bin .add .i64 (.bin .mul .i64 (.lit 64) (.var 10)) (.bin .mul .i64 (.lit 8) (.var 11)))) (.lit 0)) (.lit 63))))), (.lit 1112), false⟩
theorem co0_3 (h : Is v n o) (hc : o = 0) : CFok (sg a0 a1 a2 v x0 x1 x2 x3 x4 x5 x6 n o) ko0_3 := by
  refine CFok.ex (hbd h) rfl rfl ?_
  obtain ⟨v0, v1, h0, h1, h2, h3⟩ := h
  show (((1088 + ((((64 * n) + (8 * o)) / 1) % (63 + 1))) : Int) == 1112) = false
  refine beq_eq_false_iff_ne.2 ?_
  omega
def ko0_4 : CF := ⟨.eql, (.conv .u64 (.bin .add .i64 (.lit 1088) (.conv .i64 (.bin .and .u64 (.bin .shr .u64 (.conv .u64 (.bin .add .i64 (.bin .mul .i64 (.lit 64) (.var 10)) (.bin .mul .i64 (.lit 8) (.var 11)))) (.lit 0)) (.lit 63))))), (.lit 1120), false⟩
theorem co0_4 (h : Is v n o) (hc : o = 0) : CFok (sg a0 a1 a2 v x0 x1 x2 x3 x4 x5 x6 n o) ko0_4 := by
  refine CFok.ex (hbd h) rfl rfl ?_
  obtain ⟨v0, v1, h0, h1, h2, h3⟩ := h
  show (((1088 + ((((64 * n) + (8 * o)) / 1) % (63 + 1))) : Int) == 1120) = false
  refine beq_eq_false_iff_ne.2 ?_
  omega
def ko0_5 : CF := ⟨.eql, (.conv .u64 (.bin .add .i64 (.lit 1088) (.conv .i64 (.bin .and .u64 (.bin .shr .u64 (.conv .u64 (.bin .add .i64 (.bin .mul .i64 (.lit 64) (.var 10)) (.bin .mul .i64 (.lit 8) (.var 11)))) (.lit 0)) (.lit 63))))), (.lit 1128), false⟩
theorem co0_5 (h : Is v n o) (hc : o = 0) : CFok (sg a0 a1 a2 v x0 x1 x2 x3 x4 x5 x6 n o) ko0_5 := by
  refine CFok.ex (hbd h) rfl rfl ?_
  obtain ⟨v0, v1, h0, h1, h2, h3⟩ := h
  show (((1088 + ((((64 * n) + (8 * o)) / 1) % (63 + 1))) : Int) == 1128) = false
  refine beq_eq_false_iff_ne.2 ?_
  omega
def ko0_6 : CF := ⟨.eql, (.conv .u64 (.bin .add .i64 (.lit 1088) (.conv .i64 (.bin .and .u64 (.bin .shr .u64 (.conv .u64 (.bin .add .i64 (.bin .mul .i64 (.lit 64) (.var 10)) (.bin .mul .i64 (.lit 8) (.var 11)))) (.lit 0)) (.lit 63))))), (.lit 1136), false⟩
theorem co0_6 (h : Is v n o) (hc : o = 0) : CFok (sg a0 a1 a2 v x0 x1 x2 x3 x4 x5 x6 n o) ko0_6 := by
  refine CFok.ex (hbd h) rfl rfl ?_
  obtain ⟨v0, v1, h0, h1, h2, h3⟩ := h
  show (((1088 + ((((64 * n) + (8 * o)) / 1) % (63 + 1))) : Int) == 1136) = false
  refine beq_eq_false_iff_ne.2 ?_
  omega
def ko0_7 : CF := ⟨.eql, (.conv .u64 (.bin .add .i64 (.lit 1088) (.conv .i64 (.bin .and .u64 (.bin .shr .u64 (.conv .u64 (.bin .add .i64 (.bin .mul .i64 (.lit 64) (.var 10)) (.bin .mul .i64 (.lit 8) (.var 11)))) (.lit 0)) (.lit 63))))), (.lit 1144), false⟩
theorem co0_7 (h : Is v n o) (hc : o = 0) : CFok (sg a0 a1 a2 v x0 x1 x2 x3 x4 x5 x6 n o) ko0_7 := by
  refine CFok.ex (hbd h) rfl rfl ?_
  obtain ⟨v0, v1, h0, h1, h2, h3⟩ := h
  show (((1088 + ((((64 * n) + (8 * o)) / 1) % (63 + 1))) : Int) == 1144) = false
  refine beq_eq_false_iff_ne.2 ?_
  omega
def xCo0 (l : List CF) : List CF := ko0_0 :: ko0_1 :: ko0_2 :: ko0_3 :: ko0_4 :: ko0_5 :: ko0_6 :: ko0_7 :: l
def xNo0 (l : List NF) : List NF := l
theorem okCo0 (h : Is v n o) (hc : o = 0) {l : List CF} (hl : Al (CFok (sg a0 a1 a2 v x0 x1 x2 x3 x4 x5 x6 n o)) l) : Al (CFok (sg a0 a1 a2 v x0 x1 x2 x3 x4 x5 x6 n o)) (xCo0 l) := (.cons (co0_0 h hc) (.cons (co0_1 h hc) (.cons (co0_2 h hc) (.cons (co0_3 h hc) (.cons (co0_4 h hc) (.cons (co0_5 h hc) (.cons (co0_6 h hc) (.cons (co0_7 h hc) hl))))))))
theorem okNo0 (h : Is v n o) (hc : o = 0) {l : List NF} (hl : Al (NFok (sg a0 a1 a2 v x0 x1 x2 x3 x4 x5 x6 n o)) l) : Al (NFok (sg a0 a1 a2 v x0 x1 x2 x3 x4 x5 x6 n o)) (xNo0 l) := hl
def ko1_0 : CF := ⟨.eql, (.conv .u64 (.bin .add .i64 (.lit 1088) (.conv .i64 (.bin .and .u64 (.bin .shr .u64 (.conv .u64 (.bin .add .i64 (.bin .mul .i64 (.lit 64) (.var 10)) (.bin .mul .i64 (.lit 8) (.var 11)))) (.lit 0)) (.lit 63))))), (.lit 1088), false⟩
theorem co1_0 (h : Is v n o) (hc : o = 1) : CFok (sg a0 a1 a2 v x0 x1 x2 x3 x4 x5 x6 n o) ko1_0 := by
  refine CFok.ex (hbd h) rfl rfl ?_
  obtain ⟨v0, v1, h0, h1, h2, h3⟩ := h
  show (((1088 + ((((64 * n) + (8 * o)) / 1) % (63 + 1))) : Int) == 1088) = false
  refine beq_eq_false_iff_ne.2 ?_
  omega
def ko1_1 : CF := ⟨.eql, (.conv .u64 (.bin .add .i64 (.lit 1088) (.conv .i64 (.bin .and .u64 (.bin .shr .u64 (.conv .u64 (.bin .add .i64 (.bin .mul .i64 (.lit 64) (.var 10)) (.bin .mul .i64 (.lit 8) (.var 11)))) (.lit 0)) (.lit 63))))), (.lit 1096), true⟩
theorem co1_1 (h : Is v n o) (hc : o = 1) : CFok (sg a0 a1 a2 v x0 x1 x2 x3 x4 x5 x6 n o) ko1_1 := by
  refine CFok.ex (hbd h) rfl rfl ?_
  obtain ⟨v0, v1, h0, h1, h2, h3⟩ := h
  show (((1088 + ((((64 * n) + (8 * o)) / 1) % (63 + 1))) : Int) == 1096) = true
  refine beq_iff_eq.2 ?_
  omega
def ko1_2 : CF := ⟨.eql, (.conv .u64 (.bin .add .i64 (.lit 1088) (.conv .i64 (.bin .and .u64 (.bin .shr .u64 (.conv .u64 (.bin .add .i64 (.bin .mul .i64 (.lit 64) (.var 10)) (.bin .mul .i64 (.lit 8) (.var 11)))) (.lit 0)) (.lit 63))))), (.lit 1104), false⟩
theorem co1_2 (h : Is v n o) (hc : o = 1) : CFok (sg a0 a1 a2 v x0 x1 x2 x3 x4 x5 x6 n o) ko1_2 := by
  refine CFok.ex (hbd h) rfl rfl ?_
  obtain ⟨v0, v1, h0, h1, h2, h3⟩ := h
  show (((1088 + ((((64 * n) + (8 * o)) / 1) % (63 + 1))) : Int) == 1104) = false
  refine beq_eq_false_iff_ne.2 ?_
  omega
def ko1_3 : CF := ⟨.eql, (.conv .u64 (.bin .add .i64 (.lit 1088) (.conv .i64 (.bin .and .u64 (.bin .shr .u64 (.conv .u64 (.bin .add .i64 (.bin .mul .i64 (.lit 64) (.var 10)) (.bin .mul .i64 (.lit 8) (.var 11)))) (.lit 0)) (.lit 63))))), (.lit 1112), false⟩
theorem co1_3 (h : Is v n o) (hc : o = 1) : CFok (sg a0 a1 a2 v x0 x1 x2 x3 x4 x5 x6 n o) ko1_3 := by
  refine CFok.ex (hbd h) rfl rfl ?_
  obtain ⟨v0, v1, h0, h1, h2, h3⟩ := h
  show (((1088 + ((((64 * n) + (8 * o)) / 1) % (63 + 1))) : Int) == 1112) = false
  refine beq_eq_false_iff_ne.2 ?_
  omega
def ko1_4 : CF := ⟨.eql, (.conv .u64 (.bin .add .i64 (.lit 1088) (.conv .i64 (.bin .and .u64 (.bin .shr .u64 (.conv .u64 (.bin .add .i64 (.bin .mul .i64 (.lit 64) (.var 10)) (.bin .mul .i64 (.lit 8) (.var 11)))) (.lit 0)) (.lit 63))))), (.lit 1120), false⟩
theorem co1_4 (h : Is v n o) (hc : o = 1) : CFok (sg a0 a1 a2 v x0 x1 x2 x3 x4 x5 x6 n o) ko1_4 := by
  refine CFok.ex (hbd h) rfl rfl ?_
  obtain ⟨v0, v1, h0, h1, h2, h3⟩ := h
  show (((1088 + ((((64 * n) + (8 * o)) / 1) % (63 + 1))) : Int) == 1120) = false
  refine beq_eq_false_iff_ne.2 ?_
  omega
def ko1_5 : CF := ⟨.eql, (.conv .u64 (.bin .add .i64 (.lit 1088) (.conv .i64 (.bin .and .u64 (.bin .shr .u64 (.conv .u64 (.bin .add .i64 (.bin .mul .i64 (.lit 64) (.var 10)) (.bin .mul .i64 (.lit 8) (.var 11)))) (.lit 0)) (.lit 63))))), (.lit 1128), false⟩
theorem co1_5 (h : Is v n o) (hc : o = 1) : CFok (sg a0 a1 a2 v x0 x1 x2 x3 x4 x5 x6 n o) ko1_5 := by
  refine CFok.ex (hbd h) rfl rfl ?_
  obtain ⟨v0, v1, h0, h1, h2, h3⟩ := h
  show (((1088 + ((((64 * n) + (8 * o)) / 1) % (63 + 1))) : Int) == 1128) = false
  refine beq_eq_false_iff_ne.2 ?_
  omega
def ko1_6 : CF := ⟨.eql, (.conv .u64 (.bin .add .i64 (.lit 1088) (.conv .i64 (.bin .and .u64 (.bin .shr .u64 (.conv .u64 (.bin .add .i64 (.bin .mul .i64 (.lit 64) (.var 10)) (.bin .mul .i64 (.lit 8) (.var 11)))) (.lit 0)) (.lit 63))))), (.lit 1136), false⟩
theorem co1_6 (h : Is v n o) (hc : o = 1) : CFok (sg a0 a1 a2 v x0 x1 x2 x3 x4 x5 x6 n o) ko1_6 := by
  refine CFok.ex (hbd h) rfl rfl ?_
  obtain ⟨v0, v1, h0, h1, h2, h3⟩ := h
  show (((1088 + ((((64 * n) + (8 * o)) / 1) % (63 + 1))) : Int) == 1136) = false
  refine beq_eq_false_iff_ne.2 ?_
  omega
def ko1_7 : CF := ⟨.eql, (.conv .u64 (.bin .add .i64 (.lit 1088) (.conv .i64 (.bin .and .u64 (.bin .shr .u64 (.conv .u64 (.bin .add .i64 (.bin .mul .i64 (.lit 64) (.var 10)) (.bin .mul .i64 (.lit 8) (.var 11)))) (.lit 0)) (.lit 63))))), (.lit 1144), false⟩
theorem co1_7 (h : Is v n o) (hc : o = 1) : CFok (sg a0 a1 a2 v x0 x1 x2 x3 x4 x5 x6 n o) ko1_7 := by
  refine CFok.ex (hbd h) rfl rfl ?_
  obtain ⟨v0, v1, h0, h1, h2, h3⟩ := h
  show (((1088 + ((((64 * n) + (8 * o)) / 1) % (63 + 1))) : Int) == 1144) = false
  refine beq_eq_false_iff_ne.2 ?_
  omega
def xCo1 (l : List CF) : List CF := ko1_0 :: ko1_1 :: ko1_2 :: ko1_3 :: ko1_4 :: ko1_5 :: ko1_6 :: ko1_7 :: l
def xNo1 (l : List NF) : List NF := l
theorem okCo1 (h : Is v n o) (hc : o = 1) {l : List CF} (hl : Al (CFok (sg a0 a1 a2 v x0 x1 x2 x3 x4 x5 x6 n o)) l) : Al (CFok (sg a0 a1 a2 v x0 x1 x2 x3 x4 x5 x6 n o)) (xCo1 l) := (.cons (co1_0 h hc) (.cons (co1_1 h hc) (.cons (co1_2 h hc) (.cons (co1_3 h hc) (.cons (co1_4 h hc) (.cons (co1_5 h hc) (.cons (co1_6 h hc) (.cons (co1_7 h hc) hl))))))))
theorem okNo1 (h : Is v n o) (hc : o = 1) {l : List NF} (hl : Al (NFok (sg a0 a1 a2 v x0 x1 x2 x3 x4 x5 x6 n o)) l) : Al (NFok (sg a0 a1 a2 v x0 x1 x2 x3 x4 x5 x6 n o)) (xNo1 l) := hl
def ko2_0 : CF := ⟨.eql, (.conv .u64 (.bin .add .i64 (.lit 1088) (.conv .i64 (.bin .and .u64 (.bin .shr .u64 (.conv .u64 (.bin .add .i64 (.bin .mul .i64 (.lit 64) (.var 10)) (.bin .mul .i64 (.lit 8) (.var 11)))) (.lit 0)) (.lit 63))))), (.lit 1088), false⟩
theorem co2_0 (h : Is v n o) (hc : o = 2) : CFok (sg a0 a1 a2 v x0 x1 x2 x3 x4 x5 x6 n o) ko2_0 := by
  refine CFok.ex (hbd h) rfl rfl ?_
  obtain ⟨v0, v1, h0, h1, h2, h3⟩ := h
  show (((1088 + ((((64 * n) + (8 * o)) / 1) % (63 + 1))) : Int) == 1088) = false
  refine beq_eq_false_iff_ne.2 ?_
  omega
def ko2_1 : CF := ⟨.eql, (.conv .u64 (.bin .add .i64 (.lit 1088) (.conv .i64 (.bin .and .u64 (.bin .shr .u64 (.conv .u64 (.bin .add .i64 (.bin .mul .i64 (.lit 64) (.var 10)) (.bin .mul .i64 (.lit 8) (.var 11)))) (.lit 0)) (.lit 63))))), (.lit 1096), false⟩
theorem co2_1 (h : Is v n o) (hc : o = 2) : CFok (sg a0 a1 a2 v x0 x1 x2 x3 x4 x5 x6 n o) ko2_1 := by
  refine CFok.ex (hbd h) rfl rfl ?_
  obtain ⟨v0, v1, h0, h1, h2, h3⟩ := h
  show (((1088 + ((((64 * n) + (8 * o)) / 1) % (63 + 1))) : Int) == 1096) = false
  refine beq_eq_false_iff_ne.2 ?_
  omega
def ko2_2 : CF := ⟨.eql, (.conv .u64 (.bin .add .i64 (.lit 1088) (.conv .i64 (.bin .and .u64 (.bin .shr .u64 (.conv .u64 (.bin .add .i64 (.bin .mul .i64 (.lit 64) (.var 10)) (.bin .mul .i64 (.lit 8) (.var 11)))) (.lit 0)) (.lit 63))))), (.lit 1104), true⟩
theorem co2_2 (h : Is v n o) (hc : o = 2) : CFok (sg a0 a1 a2 v x0 x1 x2 x3 x4 x5 x6 n o) ko2_2 := by
  refine CFok.ex (hbd h) rfl rfl ?_
  obtain ⟨v0, v1, h0, h1, h2, h3⟩ := h
  show (((1088 + ((((64 * n) + (8 * o)) / 1) % (63 + 1))) : Int) == 1104) = true
  refine beq_iff_eq.2 ?_
  omega
def ko2_3 : CF := ⟨.eql, (.conv .u64 (.bin .add .i64 (.lit 1088) (.conv .i64 (.bin .and .u64 (.bin .shr .u64 (.conv .u64 (.bin .add .i64 (.bin .mul .i64 (.lit 64) (.var 10)) (.bin .mul .i64 (.lit 8) (.var 11)))) (.lit 0)) (.lit 63))))), (.lit 1112), false⟩
theorem co2_3 (h : Is v n o) (hc : o = 2) : CFok (sg a0 a1 a2 v x0 x1 x2 x3 x4 x5 x6 n o) ko2_3 := by
  refine CFok.ex (hbd h) rfl rfl ?_
  obtain ⟨v0, v1, h0, h1, h2, h3⟩ := h
  show (((1088 + ((((64 * n) + (8 * o)) / 1) % (63 + 1))) : Int) == 1112) = false
  refine beq_eq_false_iff_ne.2 ?_
  omega
def ko2_4 : CF := ⟨.eql, (.conv .u64 (.bin .add .i64 (.lit 1088) (.conv .i64 (.bin .and .u64 (.bin .shr .u64 (.conv .u64 (.bin .add .i64 (.bin .mul .i64 (.lit 64) (.var 10)) (.bin .mul .i64 (.lit 8) (.var 11)))) (.lit 0)) (.lit 63))))), (.lit 1120), false⟩
theorem co2_4 (h : Is v n o) (hc : o = 2) : CFok (sg a0 a1 a2 v x0 x1 x2 x3 x4 x5 x6 n o) ko2_4 := by
  refine CFok.ex (hbd h) rfl rfl ?_
  obtain ⟨v0, v1, h0, h1, h2, h3⟩ := h
  show (((1088 + ((((64 * n) + (8 * o)) / 1) % (63 + 1))) : Int) == 1120) = false
  refine beq_eq_false_iff_ne.2 ?_
  omega
def ko2_5 : CF := ⟨.eql, (.conv .u64 (.bin .add .i64 (.lit 1088) (.conv .i64 (.bin .and .u64 (.bin .shr .u64 (.conv .u64 (.bin .add .i64 (.bin .mul .i64 (.lit 64) (.var 10)) (.bin .mul .i64 (.lit 8) (.var 11)))) (.lit 0)) (.lit 63))))), (.lit 1128), false⟩
theorem co2_5 (h : Is v n o) (hc : o = 2) : CFok (sg a0 a1 a2 v x0 x1 x2 x3 x4 x5 x6 n o) ko2_5 := by
  refine CFok.ex (hbd h) rfl rfl ?_
  obtain ⟨v0, v1, h0, h1, h2, h3⟩ := h
  show (((1088 + ((((64 * n) + (8 * o)) / 1) % (63 + 1))) : Int) == 1128) = false
  refine beq_eq_false_iff_ne.2 ?_
  omega
def ko2_6 : CF := ⟨.eql, (.conv .u64 (.bin .add .i64 (.lit 1088) (.conv .i64 (.bin .and .u64 (.bin .shr .u64 (.conv .u64 (.bin .add .i64 (.bin .mul .i64 (.lit 64) (.var 10)) (.bin .mul .i64 (.lit 8) (.var 11)))) (.lit 0)) (.lit 63))))), (.lit 1136), false⟩
theorem co2_6 (h : Is v n o) (hc : o = 2) : CFok (sg a0 a1 a2 v x0 x1 x2 x3 x4 x5 x6 n o) ko2_6 := by
  refine CFok.ex (hbd h) rfl rfl ?_
  obtain ⟨v0, v1, h0, h1, h2, h3⟩ := h
  show (((1088 + ((((64 * n) + (8 * o)) / 1) % (63 + 1))) : Int) == 1136) = false
  refine beq_eq_false_iff_ne.2 ?_
  omega
def ko2_7 : CF := ⟨.eql, (.conv .u64 (.bin .add .i64 (.lit 1088) (.conv .i64 (.bin .and .u64 (.bin .shr .u64 (.conv .u64 (.bin .add .i64 (.bin .mul .i64 (.lit 64) (.var 10)) (.bin .mul .i64 (.lit 8) (.var 11)))) (.lit 0)) (.lit 63))))), (.lit 1144), false⟩
theorem co2_7 (h : Is v n o) (hc : o = 2) : CFok (sg a0 a1 a2 v x0 x1 x2 x3 x4 x5 x6 n o) ko2_7 := by
  refine CFok.ex (hbd h) rfl rfl ?_
  obtain ⟨v0, v1, h0, h1, h2, h3⟩ := h
  show (((1088 + ((((64 * n) + (8 * o)) / 1) % (63 + 1))) : Int) == 1144) = false
  refine beq_eq_false_iff_ne.2 ?_
  omega
def xCo2 (l : List CF) : List CF := ko2_0 :: ko2_1 :: ko2_2 :: ko2_3 :: ko2_4 :: ko2_5 :: ko2_6 :: ko2_7 :: l
def xNo2 (l : List NF) : List NF := l
theorem okCo2 (h : Is v n o) (hc : o = 2) {l : List CF} (hl : Al (CFok (sg a0 a1 a2 v x0 x1 x2 x3 x4 x5 x6 n o)) l) : Al (CFok (sg a0 a1 a2 v x0 x1 x2 x3 x4 x5 x6 n o)) (xCo2 l) := (.cons (co2_0 h hc) (.cons (co2_1 h hc) (.cons (co2_2 h hc) (.cons (co2_3 h hc) (.cons (co2_4 h hc) (.cons (co2_5 h hc) (.cons (co2_6 h hc) (.cons (co2_7 h hc) hl))))))))
theorem okNo2 (h : Is v n o) (hc : o = 2) {l : List NF} (hl : Al (NFok (sg a0 a1 a2 v x0 x1 x2 x3 x4 x5 x6 n o)) l) : Al (NFok (sg a0 a1 a2 v x0 x1 x2 x3 x4 x5 x6 n o)) (xNo2 l) := hl
def ko3_0 : CF := ⟨.eql, (.conv .u64 (.bin .add .i64 (.lit 1088) (.conv .i64 (.bin .and .u64 (.bin .shr .u64 (.conv .u64 (.bin .add .i64 (.bin .mul .i64 (.lit 64) (.var 10)) (.bin .mul .i64 (.lit 8) (.var 11)))) (.lit 0)) (.lit 63))))), (.lit 1088), false⟩
theorem co3_0 (h : Is v n o) (hc : o = 3) : CFok (sg a0 a1 a2 v x0 x1 x2 x3 x4 x5 x6 n o) ko3_0 := by
  refine CFok.ex (hbd h) rfl rfl ?_
  obtain ⟨v0, v1, h0, h1, h2, h3⟩ := h
  show (((1088 + ((((64 * n) + (8 * o)) / 1) % (63 + 1))) : Int) == 1088) = false
  refine beq_eq_false_iff_ne.2 ?_
  omega
def ko3_1 : CF := ⟨.eql, (.conv .u64 (.bin .add .i64 (.lit 1088) (.conv .i64 (.bin .and .u64 (.bin .shr .u64 (.conv .u64 (.bin .add .i64 (.bin .mul .i64 (.lit 64) (.var 10)) (.bin .mul .i64 (.lit 8) (.var 11)))) (.lit 0)) (.lit 63))))), (.lit 1096), false⟩
theorem co3_1 (h : Is v n o) (hc : o = 3) : CFok (sg a0 a1 a2 v x0 x1 x2 x3 x4 x5 x6 n o) ko3_1 := by
  refine CFok.ex (hbd h) rfl rfl ?_
  obtain ⟨v0, v1, h0, h1, h2, h3⟩ := h
  show (((1088 + ((((64 * n) + (8 * o)) / 1) % (63 + 1))) : Int) == 1096) = false
  refine beq_eq_false_iff_ne.2 ?_
  omega
def ko3_2 : CF := ⟨.eql, (.conv .u64 (.bin .add .i64 (.lit 1088) (.conv .i64 (.bin .and .u64 (.bin .shr .u64 (.conv .u64 (.bin .add .i64 (.bin .mul .i64 (.lit 64) (.var 10)) (.bin .mul .i64 (.lit 8) (.var 11)))) (.lit 0)) (.lit 63))))), (.lit 1104), false⟩
theorem co3_2 (h : Is v n o) (hc : o = 3) : CFok (sg a0 a1 a2 v x0 x1 x2 x3 x4 x5 x6 n o) ko3_2 := by
  refine CFok.ex (hbd h) rfl rfl ?_
  obtain ⟨v0, v1, h0, h1, h2, h3⟩ := h
  show (((1088 + ((((64 * n) + (8 * o)) / 1) % (63 + 1))) : Int) == 1104) = false
  refine beq_eq_false_iff_ne.2 ?_
  omega
def ko3_3 : CF := ⟨.eql, (.conv .u64 (.bin .add .i64 (.lit 1088) (.conv .i64 (.bin .and .u64 (.bin .shr .u64 (.conv .u64 (.bin .add .i64 (.bin .mul .i64 (.lit 64) (.var 10)) (.bin .mul .i64 (.lit 8) (.var 11)))) (.lit 0)) (.lit 63))))), (.lit 1112), true⟩
theorem co3_3 (h : Is v n o) (hc : o = 3) : CFok (sg a0 a1 a2 v x0 x1 x2 x3 x4 x5 x6 n o) ko3_3 := by
  refine CFok.ex (hbd h) rfl rfl ?_
  obtain ⟨v0, v1, h0, h1, h2, h3⟩ := h
  show (((1088 + ((((64 * n) + (8 * o)) / 1) % (63 + 1))) : Int) == 1112) = true
  refine beq_iff_eq.2 ?_
  omega
def ko3_4 : CF := ⟨.eql, (.conv .u64 (.bin .add .i64 (.lit 1088) (.conv .i64 (.bin .and .u64 (.bin .shr .u64 (.conv .u64 (.bin .add .i64 (.bin .mul .i64 (.lit 64) (.var 10)) (.bin .mul .i64 (.lit 8) (.var 11)))) (.lit 0)) (.lit 63))))), (.lit 1120), false⟩
theorem co3_4 (h : Is v n o) (hc : o = 3) : CFok (sg a0 a1 a2 v x0 x1 x2 x3 x4 x5 x6 n o) ko3_4 := by
  refine CFok.ex (hbd h) rfl rfl ?_
  obtain ⟨v0, v1, h0, h1, h2, h3⟩ := h
  show (((1088 + ((((64 * n) + (8 * o)) / 1) % (63 + 1))) : Int) == 1120) = false
  refine beq_eq_false_iff_ne.2 ?_
  omega
def ko3_5 : CF := ⟨.eql, (.conv .u64 (.bin .add .i64 (.lit 1088) (.conv .i64 (.bin .and .u64 (.bin .shr .u64 (.conv .u64 (.bin .add .i64 (.bin .mul .i64 (.lit 64) (.var 10)) (.bin .mul .i64 (.lit 8) (.var 11)))) (.lit 0)) (.lit 63))))), (.lit 1128), false⟩
theorem co3_5 (h : Is v n o) (hc : o = 3) : CFok (sg a0 a1 a2 v x0 x1 x2 x3 x4 x5 x6 n o) ko3_5 := by
  refine CFok.ex (hbd h) rfl rfl ?_
  obtain ⟨v0, v1, h0, h1, h2, h3⟩ := h
  show (((1088 + ((((64 * n) + (8 * o)) / 1) % (63 + 1))) : Int) == 1128) = false
  refine beq_eq_false_iff_ne.2 ?_
  omega
def ko3_6 : CF := ⟨.eql, (.conv .u64 (.bin .add .i64 (.lit 1088) (.conv .i64 (.bin .and .u64 (.bin .shr .u64 (.conv .u64 (.bin .add .i64 (.bin .mul .i64 (.lit 64) (.var 10)) (.bin .mul .i64 (.lit 8) (.var 11)))) (.lit 0)) (.lit 63))))), (.lit 1136), false⟩
theorem co3_6 (h : Is v n o) (hc : o = 3) : CFok (sg a0 a1 a2 v x0 x1 x2 x3 x4 x5 x6 n o) ko3_6 := by
  refine CFok.ex (hbd h) rfl rfl ?_
  obtain ⟨v0, v1, h0, h1, h2, h3⟩ := h
  show (((1088 + ((((64 * n) + (8 * o)) / 1) % (63 + 1))) : Int) == 1136) = false
  refine beq_eq_false_iff_ne.2 ?_
  omega
def ko3_7 : CF := ⟨.eql, (.conv .u64 (.bin .add .i64 (.lit 1088) (.conv .i64 (.bin .and .u64 (.bin .shr .u64 (.conv .u64 (.bin .add .i64 (.bin .mul .i64 (.lit 64) (.var 10)) (.bin .mul .i64 (.lit 8) (.var 11)))) (.lit 0)) (.lit 63))))), (.lit 1144), false⟩
theorem co3_7 (h : Is v n o) (hc : o = 3) : CFok (sg a0 a1 a2 v x0 x1 x2 x3 x4 x5 x6 n o) ko3_7 := by
  refine CFok.ex (hbd h) rfl rfl ?_
  obtain ⟨v0, v1, h0, h1, h2, h3⟩ := h
  show (((1088 + ((((64 * n) + (8 * o)) / 1) % (63 + 1))) : Int) == 1144) = false
  refine beq_eq_false_iff_ne.2 ?_
  omega
def xCo3 (l : List CF) : List CF := ko3_0 :: ko3_1 :: ko3_2 :: ko3_3 :: ko3_4 :: ko3_5 :: ko3_6 :: ko3_7 :: l
def xNo3 (l : List NF) : List NF := l
theorem okCo3 (h : Is v n o) (hc : o = 3) {l : List CF} (hl : Al (CFok (sg a0 a1 a2 v x0 x1 x2 x3 x4 x5 x6 n o)) l) : Al (CFok (sg a0 a1 a2 v x0 x1 x2 x3 x4 x5 x6 n o)) (xCo3 l) := (.cons (co3_0 h hc) (.cons (co3_1 h hc) (.cons (co3_2 h hc) (.cons (co3_3 h hc) (.cons (co3_4 h hc) (.cons (co3_5 h hc) (.cons (co3_6 h hc) (.cons (co3_7 h hc) hl))))))))
theorem okNo3 (h : Is v n o) (hc : o = 3) {l : List NF} (hl : Al (NFok (sg a0 a1 a2 v x0 x1 x2 x3 x4 x5 x6 n o)) l) : Al (NFok (sg a0 a1 a2 v x0 x1 x2 x3 x4 x5 x6 n o)) (xNo3 l) := hl
def ko4_0 : CF := ⟨.eql, (.conv .u64 (.bin .add .i64 (.lit 1088) (.conv .i64 (.bin .and .u64 (.bin .shr .u64 (.conv .u64 (.bin .add .i64 (.bin .mul .i64 (.lit 64) (.var 10)) (.bin .mul .i64 (.lit 8) (.var 11)))) (.lit 0)) (.lit 63))))), (.lit 1088), false⟩
theorem co4_0 (h : Is v n o) (hc : o = 4) : CFok (sg a0 a1 a2 v x0 x1 x2 x3 x4 x5 x6 n o) ko4_0 := by
  refine CFok.ex (hbd h) rfl rfl ?_
  obtain ⟨v0, v1, h0, h1, h2, h3⟩ := h
  show (((1088 + ((((64 * n) + (8 * o)) / 1) % (63 + 1))) : Int) == 1088) = false
  refine beq_eq_false_iff_ne.2 ?_
  omega
def ko4_1 : CF := ⟨.eql, (.conv .u64 (.bin .add .i64 (.lit 1088) (.conv .i64 (.bin .and .u64 (.bin .shr .u64 (.conv .u64 (.bin .add .i64 (.bin .mul .i64 (.lit 64) (.var 10)) (.bin .mul .i64 (.lit 8) (.var 11)))) (.lit 0)) (.lit 63))))), (.lit 1096), false⟩
theorem co4_1 (h : Is v n o) (hc : o = 4) : CFok (sg a0 a1 a2 v x0 x1 x2 x3 x4 x5 x6 n o) ko4_1 := by
  refine CFok.ex (hbd h) rfl rfl ?_
  obtain ⟨v0, v1, h0, h1, h2, h3⟩ := h
  show (((1088 + ((((64 * n) + (8 * o)) / 1) % (63 + 1))) : Int) == 1096) = false
  refine beq_eq_false_iff_ne.2 ?_
  omega
def ko4_2 : CF := ⟨.eql, (.conv .u64 (.bin .add .i64 (.lit 1088) (.conv .i64 (.bin .and .u64 (.bin .shr .u64 (.conv .u64 (.bin .add .i64 (.bin .mul .i64 (.lit 64) (.var 10)) (.bin .mul .i64 (.lit 8) (.var 11)))) (.lit 0)) (.lit 63))))), (.lit 1104), false⟩
theorem co4_2 (h : Is v n o) (hc : o = 4) : CFok (sg a0 a1 a2 v x0 x1 x2 x3 x4 x5 x6 n o) ko4_2 := by
  refine CFok.ex (hbd h) rfl rfl ?_
  obtain ⟨v0, v1, h0, h1, h2, h3⟩ := h
  show (((1088 + ((((64 * n) + (8 * o)) / 1) % (63 + 1))) : Int) == 1104) = false
  refine beq_eq_false_iff_ne.2 ?_
  omega
def ko4_3 : CF := ⟨.eql, (.conv .u64 (.bin .add .i64 (.lit 1088) (.conv .i64 (.bin .and .u64 (.bin .shr .u64 (.conv .u64 (.bin .add .i64 (.bin .mul .i64 (.lit 64) (.var 10)) (.bin .mul .i64 (.lit 8) (.var 11)))) (.lit 0)) (.lit 63))))), (.lit 1112), false⟩
theorem co4_3 (h : Is v n o) (hc : o = 4) : CFok (sg a0 a1 a2 v x0 x1 x2 x3 x4 x5 x6 n o) ko4_3 := by
  refine CFok.ex (hbd h) rfl rfl ?_
  obtain ⟨v0, v1, h0, h1, h2, h3⟩ := h
  show (((1088 + ((((64 * n) + (8 * o)) / 1) % (63 + 1))) : Int) == 1112) = false
  refine beq_eq_false_iff_ne.2 ?_
  omega
def ko4_4 : CF := ⟨.eql, (.conv .u64 (.bin .add .i64 (.lit 1088) (.conv .i64 (.bin .and .u64 (.bin .shr .u64 (.conv .u64 (.bin .add .i64 (.bin .mul .i64 (.lit 64) (.var 10)) (.bin .mul .i64 (.lit 8) (.var 11)))) (.lit 0)) (.lit 63))))), (.lit 1120), true⟩
theorem co4_4 (h : Is v n o) (hc : o = 4) : CFok (sg a0 a1 a2 v x0 x1 x2 x3 x4 x5 x6 n o) ko4_4 := by
  refine CFok.ex (hbd h) rfl rfl ?_
  obtain ⟨v0, v1, h0, h1, h2, h3⟩ := h
  show (((1088 + ((((64 * n) + (8 * o)) / 1) % (63 + 1))) : Int) == 1120) = true
  refine beq_iff_eq.2 ?_
  omega
def ko4_5 : CF := ⟨.eql, (.conv .u64 (.bin .add .i64 (.lit 1088) (.conv .i64 (.bin .and .u64 (.bin .shr .u64 (.conv .u64 (.bin .add .i64 (.bin .mul .i64 (.lit 64) (.var 10)) (.bin .mul .i64 (.lit 8) (.var 11)))) (.lit 0)) (.lit 63))))), (.lit 1128), false⟩
theorem co4_5 (h : Is v n o) (hc : o = 4) : CFok (sg a0 a1 a2 v x0 x1 x2 x3 x4 x5 x6 n o) ko4_5 := by
  refine CFok.ex (hbd h) rfl rfl ?_
  obtain ⟨v0, v1, h0, h1, h2, h3⟩ := h
  show (((1088 + ((((64 * n) + (8 * o)) / 1) % (63 + 1))) : Int) == 1128) = false
  refine beq_eq_false_iff_ne.2 ?_
  omega
def ko4_6 : CF := ⟨.eql, (.conv .u64 (.bin .add .i64 (.lit 1088) (.conv .i64 (.bin .and .u64 (.bin .shr .u64 (.conv .u64 (.bin .add .i64 (.bin .mul .i64 (.lit 64) (.var 10)) (.bin .mul .i64 (.lit 8) (.var 11)))) (.lit 0)) (.lit 63))))), (.lit 1136), false⟩
theorem co4_6 (h : Is v n o) (hc : o = 4) : CFok (sg a0 a1 a2 v x0 x1 x2 x3 x4 x5 x6 n o) ko4_6 := by
  refine CFok.ex (hbd h) rfl rfl ?_
  obtain ⟨v0, v1, h0, h1, h2, h3⟩ := h
  show (((1088 + ((((64 * n) + (8 * o)) / 1) % (63 + 1))) : Int) == 1136) = false
  refine beq_eq_false_iff_ne.2 ?_
  omega
def ko4_7 : CF := ⟨.eql, (.conv .u64 (.bin .add .i64 (.lit 1088) (.conv .i64 (.bin .and .u64 (.bin .shr .u64 (.conv .u64 (.bin .add .i64 (.bin .mul .i64 (.lit 64) (.var 10)) (.bin .mul .i64 (.lit 8) (.var 11)))) (.lit 0)) (.lit 63))))), (.lit 1144), false⟩
theorem co4_7 (h : Is v n o) (hc : o = 4) : CFok (sg a0 a1 a2 v x0 x1 x2 x3 x4 x5 x6 n o) ko4_7 := by
  refine CFok.ex (hbd h) rfl rfl ?_
  obtain ⟨v0, v1, h0, h1, h2, h3⟩ := h
  show (((1088 + ((((64 * n) + (8 * o)) / 1) % (63 + 1))) : Int) == 1144) = false
  refine beq_eq_false_iff_ne.2 ?_
  omega
def xCo4 (l : List CF) : List CF := ko4_0 :: ko4_1 :: ko4_2 :: ko4_3 :: ko4_4 :: ko4_5 :: ko4_6 :: ko4_7 :: l
def xNo4 (l : List NF) : List NF := l
theorem okCo4 (h : Is v n o) (hc : o = 4) {l : List CF} (hl : Al (CFok (sg a0 a1 a2 v x0 x1 x2 x3 x4 x5 x6 n o)) l) : Al (CFok (sg a0 a1 a2 v x0 x1 x2 x3 x4 x5 x6 n o)) (xCo4 l) := (.cons (co4_0 h hc) (.cons (co4_1 h hc) (.cons (co4_2 h hc) (.cons (co4_3 h hc) (.cons (co4_4 h hc) (.cons (co4_5 h hc) (.cons (co4_6 h hc) (.cons (co4_7 h hc) hl))))))))
theorem okNo4 (h : Is v n o) (hc : o = 4) {l : List NF} (hl : Al (NFok (sg a0 a1 a2 v x0 x1 x2 x3 x4 x5 x6 n o)) l) : Al (NFok (sg a0 a1 a2 v x0 x1 x2 x3 x4 x5 x6 n o)) (xNo4 l) := hl
def ko5_0 : CF := ⟨.eql, (.conv .u64 (.bin .add .i64 (.lit 1088) (.conv .i64 (.bin .and .u64 (.bin .shr .u64 (.conv .u64 (.bin .add .i64 (.bin .mul .i64 (.lit 64) (.var 10)) (.bin .mul .i64 (.lit 8) (.var 11)))) (.lit 0)) (.lit 63))))), (.lit 1088), false⟩
theorem co5_0 (h : Is v n o) (hc : o = 5) : CFok (sg a0 a1 a2 v x0 x1 x2 x3 x4 x5 x6 n o) ko5_0 := by
  refine CFok.ex (hbd h) rfl rfl ?_
  obtain ⟨v0, v1, h0, h1, h2, h3⟩ := h
  show (((1088 + ((((64 * n) + (8 * o)) / 1) % (63 + 1))) : Int) == 1088) = false
  refine beq_eq_false_iff_ne.2 ?_
  omega
def ko5_1 : CF := ⟨.eql, (.conv .u64 (.bin .add .i64 (.lit 1088) (.conv .i64 (.bin .and .u64 (.bin .shr .u64 (.conv .u64 (.bin .add .i64 (.bin .mul .i64 (.lit 64) (.var 10)) (.bin .mul .i64 (.lit 8) (.var 11)))) (.lit 0)) (.lit 63))))), (.lit 1096), false⟩
theorem co5_1 (h : Is v n o) (hc : o = 5) : CFok (sg a0 a1 a2 v x0 x1 x2 x3 x4 x5 x6 n o) ko5_1 := by
  refine CFok.ex (hbd h) rfl rfl ?_
  obtain ⟨v0, v1, h0, h1, h2, h3⟩ := h
  show (((1088 + ((((64 * n) + (8 * o)) / 1) % (63 + 1))) : Int) == 1096) = false
  refine beq_eq_false_iff_ne.2 ?_
  omega
def ko5_2 : CF := ⟨.eql, (.conv .u64 (.bin .add .i64 (.lit 1088) (.conv .i64 (.bin .and .u64 (.bin .shr .u64 (.conv .u64 (.bin .add .i64 (.bin .mul .i64 (.lit 64) (.var 10)) (.bin .mul .i64 (.lit 8) (.var 11)))) (.lit 0)) (.lit 63))))), (.lit 1104), false⟩
theorem co5_2 (h : Is v n o) (hc : o = 5) : CFok (sg a0 a1 a2 v x0 x1 x2 x3 x4 x5 x6 n o) ko5_2 := by
  refine CFok.ex (hbd h) rfl rfl ?_
  obtain ⟨v0, v1, h0, h1, h2, h3⟩ := h
  show (((1088 + ((((64 * n) + (8 * o)) / 1) % (63 + 1))) : Int) == 1104) = false
  refine beq_eq_false_iff_ne.2 ?_
  omega
def ko5_3 : CF := ⟨.eql, (.conv .u64 (.bin .add .i64 (.lit 1088) (.conv .i64 (.bin .and .u64 (.bin .shr .u64 (.conv .u64 (.bin .add .i64 (.bin .mul .i64 (.lit 64) (.var 10)) (.bin .mul .i64 (.lit 8) (.var 11)))) (.lit 0)) (.lit 63))))), (.lit 1112), false⟩
theorem co5_3 (h : Is v n o) (hc : o = 5) : CFok (sg a0 a1 a2 v x0 x1 x2 x3 x4 x5 x6 n o) ko5_3 := by
  refine CFok.ex (hbd h) rfl rfl ?_
  obtain ⟨v0, v1, h0, h1, h2, h3⟩ := h
  show (((1088 + ((((64 * n) + (8 * o)) / 1) % (63 + 1))) : Int) == 1112) = false
  refine beq_eq_false_iff_ne.2 ?_
  omega
def ko5_4 : CF := ⟨.eql, (.conv .u64 (.bin .add .i64 (.lit 1088) (.conv .i64 (.bin .and .u64 (.bin .shr .u64 (.conv .u64 (.bin .add .i64 (.bin .mul .i64 (.lit 64) (.var 10)) (.bin .mul .i64 (.lit 8) (.var 11)))) (.lit 0)) (.lit 63))))), (.lit 1120), false⟩
theorem co5_4 (h : Is v n o) (hc : o = 5) : CFok (sg a0 a1 a2 v x0 x1 x2 x3 x4 x5 x6 n o) ko5_4 := by
  refine CFok.ex (hbd h) rfl rfl ?_
  obtain ⟨v0, v1, h0, h1, h2, h3⟩ := h
  show (((1088 + ((((64 * n) + (8 * o)) / 1) % (63 + 1))) : Int) == 1120) = false
  refine beq_eq_false_iff_ne.2 ?_
  omega
def ko5_5 : CF := ⟨.eql, (.conv .u64 (.bin .add .i64 (.lit 1088) (.conv .i64 (.bin .and .u64 (.bin .shr .u64 (.conv .u64 (.bin .add .i64 (.bin .mul .i64 (.lit 64) (.var 10)) (.bin .mul .i64 (.lit 8) (.var 11)))) (.lit 0)) (.lit 63))))), (.lit 1128), true⟩
theorem co5_5 (h : Is v n o) (hc : o = 5) : CFok (sg a0 a1 a2 v x0 x1 x2 x3 x4 x5 x6 n o) ko5_5 := by
  refine CFok.ex (hbd h) rfl rfl ?_
  obtain ⟨v0, v1, h0, h1, h2, h3⟩ := h
  show (((1088 + ((((64 * n) + (8 * o)) / 1) % (63 + 1))) : Int) == 1128) = true
  refine beq_iff_eq.2 ?_
  omega
def ko5_6 : CF := ⟨.eql, (.conv .u64 (.bin .add .i64 (.lit 1088) (.conv .i64 (.bin .and .u64 (.bin .shr .u64 (.conv .u64 (.bin .add .i64 (.bin .mul .i64 (.lit 64) (.var 10)) (.bin .mul .i64 (.lit 8) (.var 11)))) (.lit 0)) (.lit 63))))), (.lit 1136), false⟩
theorem co5_6 (h : Is v n o) (hc : o = 5) : CFok (sg a0 a1 a2 v x0 x1 x2 x3 x4 x5 x6 n o) ko5_6 := by
  refine CFok.ex (hbd h) rfl rfl ?_
  obtain ⟨v0, v1, h0, h1, h2, h3⟩ := h
  show (((1088 + ((((64 * n) + (8 * o)) / 1) % (63 + 1))) : Int) == 1136) = false
  refine beq_eq_false_iff_ne.2 ?_
  omega
def ko5_7 : CF := ⟨.eql, (.conv .u64 (.bin .add .i64 (.lit 1088) (.conv .i64 (.bin .and .u64 (.bin .shr .u64 (.conv .u64 (.bin .add .i64 (.bin .mul .i64 (.lit 64) (.var 10)) (.bin .mul .i64 (.lit 8) (.var 11)))) (.lit 0)) (.lit 63))))), (.lit 1144), false⟩
theorem co5_7 (h : Is v n o) (hc : o = 5) : CFok (sg a0 a1 a2 v x0 x1 x2 x3 x4 x5 x6 n o) ko5_7 := by
  refine CFok.ex (hbd h) rfl rfl ?_
  obtain ⟨v0, v1, h0, h1, h2, h3⟩ := h
  show (((1088 + ((((64 * n) + (8 * o)) / 1) % (63 + 1))) : Int) == 1144) = false
  refine beq_eq_false_iff_ne.2 ?_
  omega
def xCo5 (l : List CF) : List CF := ko5_0 :: ko5_1 :: ko5_2 :: ko5_3 :: ko5_4 :: ko5_5 :: ko5_6 :: ko5_7 :: l
def xNo5 (l : List NF) : List NF := l
theorem okCo5 (h : Is v n o) (hc : o = 5) {l : List CF} (hl : Al (CFok (sg a0 a1 a2 v x0 x1 x2 x3 x4 x5 x6 n o)) l) : Al (CFok (sg a0 a1 a2 v x0 x1 x2 x3 x4 x5 x6 n o)) (xCo5 l) := (.cons (co5_0 h hc) (.cons (co5_1 h hc) (.cons (co5_2 h hc) (.cons (co5_3 h hc) (.cons (co5_4 h hc) (.cons (co5_5 h hc) (.cons (co5_6 h hc) (.cons (co5_7 h hc) hl))))))))
theorem okNo5 (h : Is v n o) (hc : o = 5) {l : List NF} (hl : Al (NFok (sg a0 a1 a2 v x0 x1 x2 x3 x4 x5 x6 n o)) l) : Al (NFok (sg a0 a1 a2 v x0 x1 x2 x3 x4 x5 x6 n o)) (xNo5 l) := hl
def ko6_0 : CF := ⟨.eql, (.conv .u64 (.bin .add .i64 (.lit 1088) (.conv .i64 (.bin .and .u64 (.bin .shr .u64 (.conv .u64 (.bin .add .i64 (.bin .mul .i64 (.lit 64) (.var 10)) (.bin .mul .i64 (.lit 8) (.var 11)))) (.lit 0)) (.lit 63))))), (.lit 1088), false⟩
theorem co6_0 (h : Is v n o) (hc : o = 6) : CFok (sg a0 a1 a2 v x0 x1 x2 x3 x4 x5 x6 n o) ko6_0 := by
  refine CFok.ex (hbd h) rfl rfl ?_
  obtain ⟨v0, v1, h0, h1, h2, h3⟩ := h
  show (((1088 + ((((64 * n) + (8 * o)) / 1) % (63 + 1))) : Int) == 1088) = false
  refine beq_eq_false_iff_ne.2 ?_
  omega
def ko6_1 : CF := ⟨.eql, (.conv .u64 (.bin .add .i64 (.lit 1088) (.conv .i64 (.bin .and .u64 (.bin .shr .u64 (.conv .u64 (.bin .add .i64 (.bin .mul .i64 (.lit 64) (.var 10)) (.bin .mul .i64 (.lit 8) (.var 11)))) (.lit 0)) (.lit 63))))), (.lit 1096), false⟩
theorem co6_1 (h : Is v n o) (hc : o = 6) : CFok (sg a0 a1 a2 v x0 x1 x2 x3 x4 x5 x6 n o) ko6_1 := by
  refine CFok.ex (hbd h) rfl rfl ?_
  obtain ⟨v0, v1, h0, h1, h2, h3⟩ := h
  show (((1088 + ((((64 * n) + (8 * o)) / 1) % (63 + 1))) : Int) == 1096) = false
  refine beq_eq_false_iff_ne.2 ?_
  omega
def ko6_2 : CF := ⟨.eql, (.conv .u64 (.bin .add .i64 (.lit 1088) (.conv .i64 (.bin .and .u64 (.bin .shr .u64 (.conv .u64 (.bin .add .i64 (.bin .mul .i64 (.lit 64) (.var 10)) (.bin .mul .i64 (.lit 8) (.var 11)))) (.lit 0)) (.lit 63))))), (.lit 1104), false⟩
theorem co6_2 (h : Is v n o) (hc : o = 6) : CFok (sg a0 a1 a2 v x0 x1 x2 x3 x4 x5 x6 n o) ko6_2 := by
  refine CFok.ex (hbd h) rfl rfl ?_
  obtain ⟨v0, v1, h0, h1, h2, h3⟩ := h
  show (((1088 + ((((64 * n) + (8 * o)) / 1) % (63 + 1))) : Int) == 1104) = false
  refine beq_eq_false_iff_ne.2 ?_
  omega
def ko6_3 : CF := ⟨.eql, (.conv .u64 (.bin .add .i64 (.lit 1088) (.conv .i64 (.bin .and .u64 (.bin .shr .u64 (.conv .u64 (.bin .add .i64 (.bin .mul .i64 (.lit 64) (.var 10)) (.bin .mul .i64 (.lit 8) (.var 11)))) (.lit 0)) (.lit 63))))), (.lit 1112), false⟩
theorem co6_3 (h : Is v n o) (hc : o = 6) : CFok (sg a0 a1 a2 v x0 x1 x2 x3 x4 x5 x6 n o) ko6_3 := by
  refine CFok.ex (hbd h) rfl rfl ?_
  obtain ⟨v0, v1, h0, h1, h2, h3⟩ := h
  show (((1088 + ((((64 * n) + (8 * o)) / 1) % (63 + 1))) : Int) == 1112) = false
  refine beq_eq_false_iff_ne.2 ?_
  omega
def ko6_4 : CF := ⟨.eql, (.conv .u64 (.bin .add .i64 (.lit 1088) (.conv .i64 (.bin .and .u64 (.bin .shr .u64 (.conv .u64 (.bin .add .i64 (.bin .mul .i64 (.lit 64) (.var 10)) (.bin .mul .i64 (.lit 8) (.var 11)))) (.lit 0)) (.lit 63))))), (.lit 1120), false⟩
theorem co6_4 (h : Is v n o) (hc : o = 6) : CFok (sg a0 a1 a2 v x0 x1 x2 x3 x4 x5 x6 n o) ko6_4 := by
  refine CFok.ex (hbd h) rfl rfl ?_
  obtain ⟨v0, v1, h0, h1, h2, h3⟩ := h
  show (((1088 + ((((64 * n) + (8 * o)) / 1) % (63 + 1))) : Int) == 1120) = false
  refine beq_eq_false_iff_ne.2 ?_
  omega
def ko6_5 : CF := ⟨.eql, (.conv .u64 (.bin .add .i64 (.lit 1088) (.conv .i64 (.bin .and .u64 (.bin .shr .u64 (.conv .u64 (.bin .add .i64 (.bin .mul .i64 (.lit 64) (.var 10)) (.bin .mul .i64 (.lit 8) (.var 11)))) (.lit 0)) (.lit 63))))), (.lit 1128), false⟩
theorem co6_5 (h : Is v n o) (hc : o = 6) : CFok (sg a0 a1 a2 v x0 x1 x2 x3 x4 x5 x6 n o) ko6_5 := by
  refine CFok.ex (hbd h) rfl rfl ?_
  obtain ⟨v0, v1, h0, h1, h2, h3⟩ := h
  show (((1088 + ((((64 * n) + (8 * o)) / 1) % (63 + 1))) : Int) == 1128) = false
  refine beq_eq_false_iff_ne.2 ?_
  omega
def ko6_6 : CF := ⟨.eql, (.conv .u64 (.bin .add .i64 (.lit 1088) (.conv .i64 (.bin .and .u64 (.bin .shr .u64 (.conv .u64 (.bin .add .i64 (.bin .mul .i64 (.lit 64) (.var 10)) (.bin .mul .i64 (.lit 8) (.var 11)))) (.lit 0)) (.lit 63))))), (.lit 1136), true⟩
theorem co6_6 (h : Is v n o) (hc : o = 6) : CFok (sg a0 a1 a2 v x0 x1 x2 x3 x4 x5 x6 n o) ko6_6 := by
  refine CFok.ex (hbd h) rfl rfl ?_
  obtain ⟨v0, v1, h0, h1, h2, h3⟩ := h
  show (((1088 + ((((64 * n) + (8 * o)) / 1) % (63 + 1))) : Int) == 1136) = true
  refine beq_iff_eq.2 ?_
  omega
def ko6_7 : CF := ⟨.eql, (.conv .u64 (.bin .add .i64 (.lit 1088) (.conv .i64 (.bin .and .u64 (.bin .shr .u64 (.conv .u64 (.bin .add .i64 (.bin .mul .i64 (.lit 64) (.var 10)) (.bin .mul .i64 (.lit 8) (.var 11)))) (.lit 0)) (.lit 63))))), (.lit 1144), false⟩
theorem co6_7 (h : Is v n o) (hc : o = 6) : CFok (sg a0 a1 a2 v x0 x1 x2 x3 x4 x5 x6 n o) ko6_7 := by
  refine CFok.ex (hbd h) rfl rfl ?_
  obtain ⟨v0, v1, h0, h1, h2, h3⟩ := h
  show (((1088 + ((((64 * n) + (8 * o)) / 1) % (63 + 1))) : Int) == 1144) = false
  refine beq_eq_false_iff_ne.2 ?_
  omega
def xCo6 (l : List CF) : List CF := ko6_0 :: ko6_1 :: ko6_2 :: ko6_3 :: ko6_4 :: ko6_5 :: ko6_6 :: ko6_7 :: l
def xNo6 (l : List NF) : List NF := l
theorem okCo6 (h : Is v n o) (hc : o = 6) {l : List CF} (hl : Al (CFok (sg a0 a1 a2 v x0 x1 x2 x3 x4 x5 x6 n o)) l) : Al (CFok (sg a0 a1 a2 v x0 x1 x2 x3 x4 x5 x6 n o)) (xCo6 l) := (.cons (co6_0 h hc) (.cons (co6_1 h hc) (.cons (co6_2 h hc) (.cons (co6_3 h hc) (.cons (co6_4 h hc) (.cons (co6_5 h hc) (.cons (co6_6 h hc) (.cons (co6_7 h hc) hl))))))))
theorem okNo6 (h : Is v n o) (hc : o = 6) {l : List NF} (hl : Al (NFok (sg a0 a1 a2 v x0 x1 x2 x3 x4 x5 x6 n o)) l) : Al (NFok (sg a0 a1 a2 v x0 x1 x2 x3 x4 x5 x6 n o)) (xNo6 l) := hl
def ko7_0 : CF := ⟨.eql, (.conv .u64 (.bin .add .i64 (.lit 1088) (.conv .i64 (.bin .and .u64 (.bin .shr .u64 (.conv .u64 (.bin .add .i64 (.bin .mul .i64 (.lit 64) (.var 10)) (.bin .mul .i64 (.lit 8) (.var 11)))) (.lit 0)) (.lit 63))))), (.lit 1088), false⟩
theorem co7_0 (h : Is v n o) (hc : o = 7) : CFok (sg a0 a1 a2 v x0 x1 x2 x3 x4 x5 x6 n o) ko7_0 := by
  refine CFok.ex (hbd h) rfl rfl ?_
  obtain ⟨v0, v1, h0, h1, h2, h3⟩ := h
  show (((1088 + ((((64 * n) + (8 * o)) / 1) % (63 + 1))) : Int) == 1088) = false
  refine beq_eq_false_iff_ne.2 ?_
  omega
def ko7_1 : CF := ⟨.eql, (.conv .u64 (.bin .add .i64 (.lit 1088) (.conv .i64 (.bin .and .u64 (.bin .shr .u64 (.conv .u64 (.bin .add .i64 (.bin .mul .i64 (.lit 64) (.var 10)) (.bin .mul .i64 (.lit 8) (.var 11)))) (.lit 0)) (.lit 63))))), (.lit 1096), false⟩
theorem co7_1 (h : Is v n o) (hc : o = 7) : CFok (sg a0 a1 a2 v x0 x1 x2 x3 x4 x5 x6 n o) ko7_1 := by
  refine CFok.ex (hbd h) rfl rfl ?_
  obtain ⟨v0, v1, h0, h1, h2, h3⟩ := h
  show (((1088 + ((((64 * n) + (8 * o)) / 1) % (63 + 1))) : Int) == 1096) = false
  refine beq_eq_false_iff_ne.2 ?_
  omega
def ko7_2 : CF := ⟨.eql, (.conv .u64 (.bin .add .i64 (.lit 1088) (.conv .i64 (.bin .and .u64 (.bin .shr .u64 (.conv .u64 (.bin .add .i64 (.bin .mul .i64 (.lit 64) (.var 10)) (.bin .mul .i64 (.lit 8) (.var 11)))) (.lit 0)) (.lit 63))))), (.lit 1104), false⟩
theorem co7_2 (h : Is v n o) (hc : o = 7) : CFok (sg a0 a1 a2 v x0 x1 x2 x3 x4 x5 x6 n o) ko7_2 := by
  refine CFok.ex (hbd h) rfl rfl ?_
  obtain ⟨v0, v1, h0, h1, h2, h3⟩ := h
  show (((1088 + ((((64 * n) + (8 * o)) / 1) % (63 + 1))) : Int) == 1104) = false
  refine beq_eq_false_iff_ne.2 ?_
  omega
def ko7_3 : CF := ⟨.eql, (.conv .u64 (.bin .add .i64 (.lit 1088) (.conv .i64 (.bin .and .u64 (.bin .shr .u64 (.conv .u64 (.bin .add .i64 (.bin .mul .i64 (.lit 64) (.var 10)) (.bin .mul .i64 (.lit 8) (.var 11)))) (.lit 0)) (.lit 63))))), (.lit 1112), false⟩
theorem co7_3 (h : Is v n o) (hc : o = 7) : CFok (sg a0 a1 a2 v x0 x1 x2 x3 x4 x5 x6 n o) ko7_3 := by
  refine CFok.ex (hbd h) rfl rfl ?_
  obtain ⟨v0, v1, h0, h1, h2, h3⟩ := h
  show (((1088 + ((((64 * n) + (8 * o)) / 1) % (63 + 1))) : Int) == 1112) = false
  refine beq_eq_false_iff_ne.2 ?_
  omega
def ko7_4 : CF := ⟨.eql, (.conv .u64 (.bin .add .i64 (.lit 1088) (.conv .i64 (.bin .and .u64 (.bin .shr .u64 (.conv .u64 (.bin .add .i64 (.bin .mul .i64 (.lit 64) (.var 10)) (.bin .mul .i64 (.lit 8) (.var 11)))) (.lit 0)) (.lit 63))))), (.lit 1120), false⟩
theorem co7_4 (h : Is v n o) (hc : o = 7) : CFok (sg a0 a1 a2 v x0 x1 x2 x3 x4 x5 x6 n o) ko7_4 := by
  refine CFok.ex (hbd h) rfl rfl ?_
  obtain ⟨v0, v1, h0, h1, h2, h3⟩ := h
  show (((1088 + ((((64 * n) + (8 * o)) / 1) % (63 + 1))) : Int) == 1120) = false
  refine beq_eq_false_iff_ne.2 ?_
  omega
def ko7_5 : CF := ⟨.eql, (.conv .u64 (.bin .add .i64 (.lit 1088) (.conv .i64 (.bin .and .u64 (.bin .shr .u64 (.conv .u64 (.bin .add .i64 (.bin .mul .i64 (.lit 64) (.var 10)) (.bin .mul .i64 (.lit 8) (.var 11)))) (.lit 0)) (.lit 63))))), (.lit 1128), false⟩
theorem co7_5 (h : Is v n o) (hc : o = 7) : CFok (sg a0 a1 a2 v x0 x1 x2 x3 x4 x5 x6 n o) ko7_5 := by
  refine CFok.ex (hbd h) rfl rfl ?_
  obtain ⟨v0, v1, h0, h1, h2, h3⟩ := h
  show (((1088 + ((((64 * n) + (8 * o)) / 1) % (63 + 1))) : Int) == 1128) = false
  refine beq_eq_false_iff_ne.2 ?_
  omega
def ko7_6 : CF := ⟨.eql, (.conv .u64 (.bin .add .i64 (.lit 1088) (.conv .i64 (.bin .and .u64 (.bin .shr .u64 (.conv .u64 (.bin .add .i64 (.bin .mul .i64 (.lit 64) (.var 10)) (.bin .mul .i64 (.lit 8) (.var 11)))) (.lit 0)) (.lit 63))))), (.lit 1136), false⟩
theorem co7_6 (h : Is v n o) (hc : o = 7) : CFok (sg a0 a1 a2 v x0 x1 x2 x3 x4 x5 x6 n o) ko7_6 := by
  refine CFok.ex (hbd h) rfl rfl ?_
  obtain ⟨v0, v1, h0, h1, h2, h3⟩ := h
  show (((1088 + ((((64 * n) + (8 * o)) / 1) % (63 + 1))) : Int) == 1136) = false
  refine beq_eq_false_iff_ne.2 ?_
  omega
def ko7_7 : CF := ⟨.eql, (.conv .u64 (.bin .add .i64 (.lit 1088) (.conv .i64 (.bin .and .u64 (.bin .shr .u64 (.conv .u64 (.bin .add .i64 (.bin .mul .i64 (.lit 64) (.var 10)) (.bin .mul .i64 (.lit 8) (.var 11)))) (.lit 0)) (.lit 63))))), (.lit 1144), true⟩
theorem co7_7 (h : Is v n o) (hc : o = 7) : CFok (sg a0 a1 a2 v x0 x1 x2 x3 x4 x5 x6 n o) ko7_7 := by
  refine CFok.ex (hbd h) rfl rfl ?_
  obtain ⟨v0, v1, h0, h1, h2, h3⟩ := h
  show (((1088 + ((((64 * n) + (8 * o)) / 1) % (63 + 1))) : Int) == 1144) = true
  refine beq_iff_eq.2 ?_
  omega
def xCo7 (l : List CF) : List CF := ko7_0 :: ko7_1 :: ko7_2 :: ko7_3 :: ko7_4 :: ko7_5 :: ko7_6 :: ko7_7 :: l
def xNo7 (l : List NF) : List NF := l
theorem okCo7 (h : Is v n o) (hc : o = 7) {l : List CF} (hl : Al (CFok (sg a0 a1 a2 v x0 x1 x2 x3 x4 x5 x6 n o)) l) : Al (CFok (sg a0 a1 a2 v x0 x1 x2 x3 x4 x5 x6 n o)) (xCo7 l) := (.cons (co7_0 h hc) (.cons (co7_1 h hc) (.cons (co7_2 h hc) (.cons (co7_3 h hc) (.cons (co7_4 h hc) (.cons (co7_5 h hc) (.cons (co7_6 h hc) (.cons (co7_7 h hc) hl))))))))
theorem okNo7 (h : Is v n o) (hc : o = 7) {l : List NF} (hl : Al (NFok (sg a0 a1 a2 v x0 x1 x2 x3 x4 x5 x6 n o)) l) : Al (NFok (sg a0 a1 a2 v x0 x1 x2 x3 x4 x5 x6 n o)) (xNo7 l) := hl
def kvZ_0 : CF := ⟨.eql, (.lit 0), (.var 4), true⟩
theorem cvZ_0 (h : Is v n o) (hc : v = 0) : CFok (sg a0 a1 a2 v x0 x1 x2 x3 x4 x5 x6 n o) kvZ_0 := by
  refine CFok.ex (hbd h) rfl rfl ?_
  obtain ⟨v0, v1, h0, h1, h2, h3⟩ := h
  show ((0 : Int) == v) = true
  refine beq_iff_eq.2 ?_
  omega
def kvZ_1 : CF := ⟨.eql, (.var 4), (.lit 0), true⟩
theorem cvZ_1 (h : Is v n o) (hc : v = 0) : CFok (sg a0 a1 a2 v x0 x1 x2 x3 x4 x5 x6 n o) kvZ_1 := by
  refine CFok.ex (hbd h) rfl rfl ?_
  obtain ⟨v0, v1, h0, h1, h2, h3⟩ := h
  show ((v : Int) == 0) = true
  refine beq_iff_eq.2 ?_
  omega
def xCvZ (l : List CF) : List CF := kvZ_0 :: kvZ_1 :: l
def xNvZ (l : List NF) : List NF := l
theorem okCvZ (h : Is v n o) (hc : v = 0) {l : List CF} (hl : Al (CFok (sg a0 a1 a2 v x0 x1 x2 x3 x4 x5 x6 n o)) l) : Al (CFok (sg a0 a1 a2 v x0 x1 x2 x3 x4 x5 x6 n o)) (xCvZ l) := (.cons (cvZ_0 h hc) (.cons (cvZ_1 h hc) hl))
theorem okNvZ (h : Is v n o) (hc : v = 0) {l : List NF} (hl : Al (NFok (sg a0 a1 a2 v x0 x1 x2 x3 x4 x5 x6 n o)) l) : Al (NFok (sg a0 a1 a2 v x0 x1 x2 x3 x4 x5 x6 n o)) (xNvZ l) := hl
def kvP_0 : CF := ⟨.eql, (.lit 0), (.var 4), false⟩
theorem cvP_0 (h : Is v n o) (hc : v ≠ 0) : CFok (sg a0 a1 a2 v x0 x1 x2 x3 x4 x5 x6 n o) kvP_0 := by
  refine CFok.ex (hbd h) rfl rfl ?_
  obtain ⟨v0, v1, h0, h1, h2, h3⟩ := h
  show ((0 : Int) == v) = false
  refine beq_eq_false_iff_ne.2 ?_
  omega
def kvP_1 : CF := ⟨.eql, (.var 4), (.lit 0), false⟩
theorem cvP_1 (h : Is v n o) (hc : v ≠ 0) : CFok (sg a0 a1 a2 v x0 x1 x2 x3 x4 x5 x6 n o) kvP_1 := by
  refine CFok.ex (hbd h) rfl rfl ?_
  obtain ⟨v0, v1, h0, h1, h2, h3⟩ := h
  show ((v : Int) == 0) = false
  refine beq_eq_false_iff_ne.2 ?_
  omega
def xCvP (l : List CF) : List CF := kvP_0 :: kvP_1 :: l
def xNvP (l : List NF) : List NF := l
theorem okCvP (h : Is v n o) (hc : v ≠ 0) {l : List CF} (hl : Al (CFok (sg a0 a1 a2 v x0 x1 x2 x3 x4 x5 x6 n o)) l) : Al (CFok (sg a0 a1 a2 v x0 x1 x2 x3 x4 x5 x6 n o)) (xCvP l) := (.cons (cvP_0 h hc) (.cons (cvP_1 h hc) hl))
theorem okNvP (h : Is v n o) (hc : v ≠ 0) {l : List NF} (hl : Al (NFok (sg a0 a1 a2 v x0 x1 x2 x3 x4 x5 x6 n o)) l) : Al (NFok (sg a0 a1 a2 v x0 x1 x2 x3 x4 x5 x6 n o)) (xNvP l) := hl
def xCo (k : Nat) (l : List CF) : List CF := match k with | 0 => xCo0 l | 1 => xCo1 l | 2 => xCo2 l | 3 => xCo3 l | 4 => xCo4 l | 5 => xCo5 l | 6 => xCo6 l | 7 => xCo7 l | _ => l
theorem okCo (h : Is v n o) {l : List CF} (hl : Al (CFok (sg a0 a1 a2 v x0 x1 x2 x3 x4 x5 x6 n o)) l) : ∀ k : Nat, k < 8 → o = Int.ofNat k → Al (CFok (sg a0 a1 a2 v x0 x1 x2 x3 x4 x5 x6 n o)) (xCo k l)
  | 0, _, e => okCo0 h (show o = 0 from e) hl
  | 1, _, e => okCo1 h (show o = 1 from e) hl
  | 2, _, e => okCo2 h (show o = 2 from e) hl
  | 3, _, e => okCo3 h (show o = 3 from e) hl
  | 4, _, e => okCo4 h (show o = 4 from e) hl
  | 5, _, e => okCo5 h (show o = 5 from e) hl
  | 6, _, e => okCo6 h (show o = 6 from e) hl
  | 7, _, e => okCo7 h (show o = 7 from e) hl
  | k + 8, h, _ => absurd h (by omega)
def xNo (k : Nat) (l : List NF) : List NF := match k with | 0 => xNo0 l | 1 => xNo1 l | 2 => xNo2 l | 3 => xNo3 l | 4 => xNo4 l | 5 => xNo5 l | 6 => xNo6 l | 7 => xNo7 l | _ => l
theorem okNo (h : Is v n o) {l : List NF} (hl : Al (NFok (sg a0 a1 a2 v x0 x1 x2 x3 x4 x5 x6 n o)) l) : ∀ k : Nat, k < 8 → o = Int.ofNat k → Al (NFok (sg a0 a1 a2 v x0 x1 x2 x3 x4 x5 x6 n o)) (xNo k l)
  | 0, _, e => okNo0 h (show o = 0 from e) hl
  | 1, _, e => okNo1 h (show o = 1 from e) hl
  | 2, _, e => okNo2 h (show o = 2 from e) hl
  | 3, _, e => okNo3 h (show o = 3 from e) hl
  | 4, _, e => okNo4 h (show o = 4 from e) hl
  | 5, _, e => okNo5 h (show o = 5 from e) hl
  | 6, _, e => okNo6 h (show o = 6 from e) hl
  | 7, _, e => okNo7 h (show o = 7 from e) hl
  | k + 8, h, _ => absurd h (by omega)
end
end TopS
