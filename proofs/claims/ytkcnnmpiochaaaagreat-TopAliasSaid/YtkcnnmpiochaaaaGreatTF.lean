/- TopAlias: the facts of numbers that its evaluations want. No conditions beside those in its theorems. -/
import Derived.Test.YtkcnnmpiochaaaaGreatTM
set_option linter.unusedVariables false
open Go Eng Go.Proofs Go.RowKit
namespace TopA
open Base
def sg (a0 a1 a2 v n o : Int) : Sig := fun i => match i with | 0 => a0 | 1 => a1 | 2 => a2 | 3 => v | 10 => n | 11 => o | _ => 0
def bd (a0 a1 a2 v n o : Int) : Nat → Int × Int := fun i => if i = 10 then (0, 511) else if i = 11 then (0, 7) else (sg a0 a1 a2 v n o i, sg a0 a1 a2 v n o i)
structure Is (n o : Int) : Prop where
  n0 : 0 ≤ n
  n1 : n < 512
  o0 : 0 ≤ o
  o1 : o < 8
theorem hbd {a0 a1 a2 v n o : Int} (h : Is n o) : ∀ i, (bd a0 a1 a2 v n o i).1 ≤ sg a0 a1 a2 v n o i ∧ sg a0 a1 a2 v n o i ≤ (bd a0 a1 a2 v n o i).2 := by
  obtain ⟨h0, h1, h2, h3⟩ := h
  intro i
  unfold bd
  by_cases e : i = 10
  · subst e; exact ⟨h0, show n ≤ 511 by omega⟩
  · rw [if_neg e]
    by_cases e2 : i = 11
    · subst e2; exact ⟨h2, show o ≤ 7 by omega⟩
    · rw [if_neg e2]; exact ⟨Int.le_refl _, Int.le_refl _⟩
theorem xo (n : Int) : ∃ x, (if n % 2 = 0 then n + 1 else n - 1) = x ∧ (n % 2 = 0 → x = n + 1) ∧ (n % 2 = 1 → x = n - 1) := by
  refine ⟨_, rfl, fun h => if_pos h, fun h => if_neg (by omega)⟩
def k_0 : CF := ⟨.eql, (.conv .i64 (.bin .quo .u64 (.conv .u64 (.bin .add .i64 (.bin .mul .i64 (.lit 64) (.bin .xor .i64 (.var 10) (.lit 1))) (.bin .mul .i64 (.lit 8) (.var 11)))) (.lit 64))), (.conv .i64 (.bin .quo .u64 (.conv .u64 (.bin .add .i64 (.bin .mul .i64 (.lit 64) (.var 10)) (.bin .mul .i64 (.lit 8) (.var 11)))) (.lit 64))), false⟩
def k_1 : CF := ⟨.eql, (.conv .i64 (.bin .quo .u64 (.conv .u64 (.bin .mul .i64 (.lit 64) (.bin .xor .i64 (.var 10) (.lit 1)))) (.lit 64))), (.conv .i64 (.bin .quo .u64 (.conv .u64 (.bin .mul .i64 (.lit 64) (.bin .xor .i64 (.var 10) (.lit 1)))) (.lit 64))), true⟩
def k_2 : CF := ⟨.eql, (.conv .i64 (.bin .quo .u64 (.conv .u64 (.bin .mul .i64 (.lit 64) (.var 10))) (.lit 64))), (.conv .i64 (.bin .quo .u64 (.conv .u64 (.bin .mul .i64 (.lit 64) (.var 10))) (.lit 64))), true⟩
def k_3 : CF := ⟨.eql, (.conv .u64 (.bin .add .i64 (.bin .mul .i64 (.lit 64) (.var 10)) (.bin .mul .i64 (.lit 8) (.var 11)))), (.conv .u64 (.bin .add .i64 (.bin .mul .i64 (.lit 64) (.var 10)) (.bin .mul .i64 (.lit 8) (.var 11)))), true⟩
def k_4 : CF := ⟨.eql, (.conv .u64 (.bin .add .i64 (.lit 320) (.bin .mul .i64 (.lit 8) (.bin .rem .i64 (.bin .quo .i64 (.bin .quo .i64 (.conv .i64 (.bin .quo .u64 (.conv .u64 (.bin .mul .i64 (.lit 64) (.var 10))) (.lit 64))) (.lit 8)) (.lit 8)) (.lit 8))))), (.conv .u64 (.bin .add .i64 (.lit 320) (.bin .mul .i64 (.lit 8) (.bin .rem .i64 (.bin .quo .i64 (.bin .quo .i64 (.conv .i64 (.bin .quo .u64 (.conv .u64 (.bin .add .i64 (.bin .mul .i64 (.lit 64) (.bin .xor .i64 (.var 10) (.lit 1))) (.bin .mul .i64 (.lit 8) (.var 11)))) (.lit 64))) (.lit 8)) (.lit 8)) (.lit 8))))), true⟩
def k_5 : CF := ⟨.eql, (.conv .u64 (.bin .add .i64 (.lit 320) (.bin .mul .i64 (.lit 8) (.bin .rem .i64 (.bin .quo .i64 (.bin .quo .i64 (.conv .i64 (.bin .quo .u64 (.conv .u64 (.bin .mul .i64 (.lit 64) (.var 10))) (.lit 64))) (.lit 8)) (.lit 8)) (.lit 8))))), (.conv .u64 (.bin .add .i64 (.lit 320) (.bin .mul .i64 (.lit 8) (.bin .rem .i64 (.bin .quo .i64 (.bin .quo .i64 (.conv .i64 (.bin .quo .u64 (.conv .u64 (.bin .add .i64 (.bin .mul .i64 (.lit 64) (.var 10)) (.bin .mul .i64 (.lit 8) (.var 11)))) (.lit 64))) (.lit 8)) (.lit 8)) (.lit 8))))), true⟩
def k_6 : CF := ⟨.eql, (.conv .u64 (.bin .add .i64 (.lit 320) (.bin .mul .i64 (.lit 8) (.bin .rem .i64 (.bin .quo .i64 (.bin .quo .i64 (.conv .i64 (.bin .quo .u64 (.conv .u64 (.bin .mul .i64 (.lit 64) (.var 10))) (.lit 64))) (.lit 8)) (.lit 8)) (.lit 8))))), (.conv .u64 (.bin .add .i64 (.lit 320) (.bin .mul .i64 (.lit 8) (.bin .rem .i64 (.bin .quo .i64 (.bin .quo .i64 (.conv .i64 (.bin .quo .u64 (.conv .u64 (.bin .mul .i64 (.lit 64) (.bin .xor .i64 (.var 10) (.lit 1)))) (.lit 64))) (.lit 8)) (.lit 8)) (.lit 8))))), true⟩
def k_7 : CF := ⟨.eql, (.conv .u64 (.bin .add .i64 (.lit 320) (.bin .mul .i64 (.lit 8) (.bin .rem .i64 (.bin .quo .i64 (.bin .quo .i64 (.conv .i64 (.bin .quo .u64 (.conv .u64 (.bin .mul .i64 (.lit 64) (.var 10))) (.lit 64))) (.lit 8)) (.lit 8)) (.lit 8))))), (.conv .u64 (.bin .add .i64 (.lit 320) (.bin .mul .i64 (.lit 8) (.bin .rem .i64 (.bin .quo .i64 (.bin .quo .i64 (.var 10) (.lit 8)) (.lit 8)) (.lit 8))))), true⟩
def k_8 : CF := ⟨.eql, (.conv .u64 (.bin .add .i64 (.lit 448) (.bin .mul .i64 (.lit 8) (.bin .rem .i64 (.bin .quo .i64 (.conv .i64 (.bin .quo .u64 (.conv .u64 (.bin .add .i64 (.bin .mul .i64 (.lit 64) (.var 10)) (.bin .mul .i64 (.lit 8) (.var 11)))) (.lit 64))) (.lit 8)) (.lit 8))))), (.conv .u64 (.bin .add .i64 (.lit 448) (.bin .mul .i64 (.lit 8) (.bin .rem .i64 (.bin .quo .i64 (.conv .i64 (.bin .quo .u64 (.conv .u64 (.bin .add .i64 (.bin .mul .i64 (.lit 64) (.bin .xor .i64 (.var 10) (.lit 1))) (.bin .mul .i64 (.lit 8) (.var 11)))) (.lit 64))) (.lit 8)) (.lit 8))))), true⟩
def k_9 : CF := ⟨.eql, (.conv .u64 (.bin .add .i64 (.lit 448) (.bin .mul .i64 (.lit 8) (.bin .rem .i64 (.bin .quo .i64 (.conv .i64 (.bin .quo .u64 (.conv .u64 (.bin .add .i64 (.bin .mul .i64 (.lit 64) (.var 10)) (.bin .mul .i64 (.lit 8) (.var 11)))) (.lit 64))) (.lit 8)) (.lit 8))))), (.conv .u64 (.bin .add .i64 (.lit 448) (.bin .mul .i64 (.lit 8) (.bin .rem .i64 (.bin .quo .i64 (.conv .i64 (.bin .quo .u64 (.conv .u64 (.bin .mul .i64 (.lit 64) (.bin .xor .i64 (.var 10) (.lit 1)))) (.lit 64))) (.lit 8)) (.lit 8))))), true⟩
def k_10 : CF := ⟨.eql, (.conv .u64 (.bin .add .i64 (.lit 448) (.bin .mul .i64 (.lit 8) (.bin .rem .i64 (.bin .quo .i64 (.conv .i64 (.bin .quo .u64 (.conv .u64 (.bin .add .i64 (.bin .mul .i64 (.lit 64) (.var 10)) (.bin .mul .i64 (.lit 8) (.var 11)))) (.lit 64))) (.lit 8)) (.lit 8))))), (.conv .u64 (.bin .add .i64 (.lit 448) (.bin .mul .i64 (.lit 8) (.bin .rem .i64 (.bin .quo .i64 (.conv .i64 (.bin .quo .u64 (.conv .u64 (.bin .mul .i64 (.lit 64) (.var 10))) (.lit 64))) (.lit 8)) (.lit 8))))), true⟩
def k_11 : CF := ⟨.eql, (.conv .u64 (.bin .add .i64 (.lit 448) (.bin .mul .i64 (.lit 8) (.bin .rem .i64 (.bin .quo .i64 (.conv .i64 (.bin .quo .u64 (.conv .u64 (.bin .add .i64 (.bin .mul .i64 (.lit 64) (.var 10)) (.bin .mul .i64 (.lit 8) (.var 11)))) (.lit 64))) (.lit 8)) (.lit 8))))), (.conv .u64 (.bin .add .i64 (.lit 448) (.bin .mul .i64 (.lit 8) (.bin .rem .i64 (.bin .quo .i64 (.var 10) (.lit 8)) (.lit 8))))), true⟩
def k_12 : CF := ⟨.eql, (.conv .u64 (.bin .add .i64 (.lit 448) (.bin .mul .i64 (.lit 8) (.bin .rem .i64 (.bin .quo .i64 (.conv .i64 (.bin .quo .u64 (.conv .u64 (.bin .mul .i64 (.lit 64) (.var 10))) (.lit 64))) (.lit 8)) (.lit 8))))), (.conv .u64 (.bin .add .i64 (.lit 448) (.bin .mul .i64 (.lit 8) (.bin .rem .i64 (.bin .quo .i64 (.conv .i64 (.bin .quo .u64 (.conv .u64 (.bin .add .i64 (.bin .mul .i64 (.lit 64) (.var 10)) (.bin .mul .i64 (.lit 8) (.var 11)))) (.lit 64))) (.lit 8)) (.lit 8))))), true⟩
def k_13 : CF := ⟨.eql, (.conv .u64 (.bin .add .i64 (.lit 512) (.bin .mul .i64 (.lit 8) (.bin .rem .i64 (.conv .i64 (.bin .quo .u64 (.conv .u64 (.bin .mul .i64 (.lit 64) (.var 10))) (.lit 64))) (.lit 8))))), (.conv .u64 (.bin .add .i64 (.lit 512) (.bin .mul .i64 (.lit 8) (.bin .rem .i64 (.conv .i64 (.bin .quo .u64 (.conv .u64 (.bin .add .i64 (.bin .mul .i64 (.lit 64) (.var 10)) (.bin .mul .i64 (.lit 8) (.var 11)))) (.lit 64))) (.lit 8))))), true⟩
def k_14 : CF := ⟨.eql, (.conv .u64 (.bin .add .i64 (.lit 576) (.bin .mul .i64 (.lit 8) (.bin .rem .i64 (.conv .i64 (.bin .quo .u64 (.conv .u64 (.bin .mul .i64 (.lit 64) (.bin .xor .i64 (.var 10) (.lit 1)))) (.lit 64))) (.lit 8))))), (.conv .u64 (.bin .add .i64 (.lit 576) (.bin .mul .i64 (.lit 8) (.bin .rem .i64 (.conv .i64 (.bin .quo .u64 (.conv .u64 (.bin .add .i64 (.bin .mul .i64 (.lit 64) (.bin .xor .i64 (.var 10) (.lit 1))) (.bin .mul .i64 (.lit 8) (.var 11)))) (.lit 64))) (.lit 8))))), true⟩
def k_15 : CF := ⟨.eql, (.conv .u64 (.bin .add .i64 (.lit 576) (.bin .mul .i64 (.lit 8) (.bin .rem .i64 (.conv .i64 (.bin .quo .u64 (.conv .u64 (.bin .mul .i64 (.lit 64) (.bin .xor .i64 (.var 10) (.lit 1)))) (.lit 64))) (.lit 8))))), (.conv .u64 (.bin .add .i64 (.lit 576) (.bin .mul .i64 (.lit 8) (.bin .rem .i64 (.conv .i64 (.bin .quo .u64 (.conv .u64 (.bin .add .i64 (.bin .mul .i64 (.lit 64) (.var 10)) (.bin .mul .i64 (.lit 8) (.var 11)))) (.lit 64))) (.lit 8))))), false⟩
def k_16 : CF := ⟨.eql, (.conv .u64 (.bin .add .i64 (.lit 576) (.bin .mul .i64 (.lit 8) (.bin .rem .i64 (.conv .i64 (.bin .quo .u64 (.conv .u64 (.bin .mul .i64 (.lit 64) (.var 10))) (.lit 64))) (.lit 8))))), (.conv .u64 (.bin .add .i64 (.lit 576) (.bin .mul .i64 (.lit 8) (.bin .rem .i64 (.conv .i64 (.bin .quo .u64 (.conv .u64 (.bin .add .i64 (.bin .mul .i64 (.lit 64) (.var 10)) (.bin .mul .i64 (.lit 8) (.var 11)))) (.lit 64))) (.lit 8))))), true⟩
def k_17 : CF := ⟨.eql, (.conv .u64 (.bin .add .i64 (.lit 576) (.bin .mul .i64 (.lit 8) (.bin .rem .i64 (.conv .i64 (.bin .quo .u64 (.conv .u64 (.bin .mul .i64 (.lit 64) (.var 10))) (.lit 64))) (.lit 8))))), (.conv .u64 (.bin .add .i64 (.lit 576) (.bin .mul .i64 (.lit 8) (.bin .rem .i64 (.conv .i64 (.bin .quo .u64 (.conv .u64 (.bin .mul .i64 (.lit 64) (.bin .xor .i64 (.var 10) (.lit 1)))) (.lit 64))) (.lit 8))))), false⟩
def k_18 : CF := ⟨.eql, (.conv .u64 (.bin .add .i64 (.lit 576) (.bin .mul .i64 (.lit 8) (.bin .rem .i64 (.conv .i64 (.bin .quo .u64 (.conv .u64 (.bin .mul .i64 (.lit 64) (.var 10))) (.lit 64))) (.lit 8))))), (.conv .u64 (.bin .add .i64 (.lit 576) (.bin .mul .i64 (.lit 8) (.bin .rem .i64 (.var 10) (.lit 8))))), true⟩
def k_19 : CF := ⟨.eql, (.conv .u64 (.bin .add .i64 (.lit 640) (.conv .i64 (.bin .and .u64 (.bin .shr .u64 (.conv .u64 (.bin .add .i64 (.bin .mul .i64 (.lit 64) (.var 10)) (.bin .mul .i64 (.lit 8) (.var 11)))) (.lit 0)) (.lit 63))))), (.conv .u64 (.bin .add .i64 (.lit 640) (.conv .i64 (.bin .and .u64 (.bin .shr .u64 (.conv .u64 (.bin .add .i64 (.bin .mul .i64 (.lit 64) (.bin .xor .i64 (.var 10) (.lit 1))) (.bin .mul .i64 (.lit 8) (.var 11)))) (.lit 0)) (.lit 63))))), true⟩
def k_20 : CF := ⟨.eql, (.conv .u64 (.bin .mul .i64 (.lit 64) (.bin .xor .i64 (.var 10) (.lit 1)))), (.conv .u64 (.bin .mul .i64 (.lit 64) (.bin .xor .i64 (.var 10) (.lit 1)))), true⟩
def k_21 : CF := ⟨.eql, (.conv .u64 (.bin .mul .i64 (.lit 64) (.var 10))), (.conv .u64 (.bin .mul .i64 (.lit 64) (.var 10))), true⟩
def k_22 : CF := ⟨.eql, (.var 10), (.conv .i64 (.bin .quo .u64 (.conv .u64 (.bin .mul .i64 (.lit 64) (.var 10))) (.lit 64))), true⟩
def k_23 : CF := ⟨.geq, (.conv .i64 (.bin .quo .u64 (.conv .u64 (.bin .add .i64 (.bin .mul .i64 (.lit 64) (.bin .xor .i64 (.var 10) (.lit 1))) (.bin .mul .i64 (.lit 8) (.var 11)))) (.lit 64))), (.lit 512), false⟩
def k_24 : CF := ⟨.geq, (.conv .i64 (.bin .quo .u64 (.conv .u64 (.bin .add .i64 (.bin .mul .i64 (.lit 64) (.var 10)) (.bin .mul .i64 (.lit 8) (.var 11)))) (.lit 64))), (.lit 512), false⟩
def k_25 : CF := ⟨.geq, (.conv .i64 (.bin .quo .u64 (.conv .u64 (.bin .mul .i64 (.lit 64) (.bin .xor .i64 (.var 10) (.lit 1)))) (.lit 64))), (.lit 0), true⟩
def k_26 : CF := ⟨.geq, (.conv .i64 (.bin .quo .u64 (.conv .u64 (.bin .mul .i64 (.lit 64) (.bin .xor .i64 (.var 10) (.lit 1)))) (.lit 64))), (.lit 512), false⟩
def k_27 : CF := ⟨.geq, (.conv .i64 (.bin .quo .u64 (.conv .u64 (.bin .mul .i64 (.lit 64) (.var 10))) (.lit 64))), (.lit 0), true⟩
def k_28 : CF := ⟨.geq, (.conv .i64 (.bin .quo .u64 (.conv .u64 (.bin .mul .i64 (.lit 64) (.var 10))) (.lit 64))), (.lit 512), false⟩
def k_29 : CF := ⟨.geq, (.conv .u64 (.bin .add .i64 (.bin .mul .i64 (.lit 64) (.bin .xor .i64 (.var 10) (.lit 1))) (.bin .mul .i64 (.lit 8) (.var 11)))), (.lit 32768), false⟩
def k_30 : CF := ⟨.geq, (.conv .u64 (.bin .add .i64 (.bin .mul .i64 (.lit 64) (.var 10)) (.bin .mul .i64 (.lit 8) (.var 11)))), (.lit 32768), false⟩
def k_31 : CF := ⟨.geq, (.conv .u64 (.bin .mul .i64 (.lit 64) (.bin .xor .i64 (.var 10) (.lit 1)))), (.lit 32768), false⟩
def k_32 : CF := ⟨.geq, (.conv .u64 (.bin .mul .i64 (.lit 64) (.var 10))), (.lit 32768), false⟩
def k_33 : CF := ⟨.geq, (.var 10), (.lit 512), false⟩
def k_34 : CF := ⟨.gtr, (.conv .u64 (.bin .add .i64 (.bin .mul .i64 (.lit 64) (.var 10)) (.bin .mul .i64 (.lit 8) (.var 11)))), (.lit 18446744073709551615), false⟩
def k_35 : CF := ⟨.gtr, (.conv .u64 (.bin .mul .i64 (.lit 64) (.bin .xor .i64 (.var 10) (.lit 1)))), (.lit 18446744073709551615), false⟩
def k_36 : CF := ⟨.gtr, (.conv .u64 (.bin .mul .i64 (.lit 64) (.var 10))), (.lit 18446744073709551615), false⟩
def k_37 : CF := ⟨.leq, (.conv .i64 (.bin .quo .u64 (.conv .u64 (.bin .mul .i64 (.lit 64) (.bin .xor .i64 (.var 10) (.lit 1)))) (.lit 64))), (.lit 511), true⟩
def k_38 : CF := ⟨.leq, (.conv .i64 (.bin .quo .u64 (.conv .u64 (.bin .mul .i64 (.lit 64) (.var 10))) (.lit 64))), (.lit 511), true⟩
def k_39 : CF := ⟨.lss, (.conv .i64 (.bin .quo .u64 (.conv .u64 (.bin .add .i64 (.bin .mul .i64 (.lit 64) (.bin .xor .i64 (.var 10) (.lit 1))) (.bin .mul .i64 (.lit 8) (.var 11)))) (.lit 64))), (.lit 0), false⟩
def k_40 : CF := ⟨.lss, (.conv .i64 (.bin .quo .u64 (.conv .u64 (.bin .add .i64 (.bin .mul .i64 (.lit 64) (.var 10)) (.bin .mul .i64 (.lit 8) (.var 11)))) (.lit 64))), (.lit 0), false⟩
def k_41 : CF := ⟨.lss, (.conv .i64 (.bin .quo .u64 (.conv .u64 (.bin .mul .i64 (.lit 64) (.bin .xor .i64 (.var 10) (.lit 1)))) (.lit 64))), (.lit 0), false⟩
def k_42 : CF := ⟨.lss, (.conv .i64 (.bin .quo .u64 (.conv .u64 (.bin .mul .i64 (.lit 64) (.var 10))) (.lit 64))), (.lit 0), false⟩
def k_43 : CF := ⟨.lss, (.conv .u64 (.bin .add .i64 (.bin .mul .i64 (.lit 64) (.var 10)) (.bin .mul .i64 (.lit 8) (.var 11)))), (.lit 0), false⟩
def k_44 : CF := ⟨.lss, (.conv .u64 (.bin .mul .i64 (.lit 64) (.bin .xor .i64 (.var 10) (.lit 1)))), (.lit 0), false⟩
def k_45 : CF := ⟨.lss, (.conv .u64 (.bin .mul .i64 (.lit 64) (.var 10))), (.lit 0), false⟩
def k_46 : CF := ⟨.lss, (.var 10), (.lit 0), false⟩
def k_47 : CF := ⟨.neq, (.bin .rem .u64 (.conv .u64 (.bin .add .i64 (.bin .mul .i64 (.lit 64) (.bin .xor .i64 (.var 10) (.lit 1))) (.bin .mul .i64 (.lit 8) (.var 11)))) (.lit 8)), (.lit 0), false⟩
def k_48 : CF := ⟨.neq, (.bin .rem .u64 (.conv .u64 (.bin .add .i64 (.bin .mul .i64 (.lit 64) (.var 10)) (.bin .mul .i64 (.lit 8) (.var 11)))) (.lit 8)), (.lit 0), false⟩
def k_49 : CF := ⟨.neq, (.bin .rem .u64 (.conv .u64 (.bin .mul .i64 (.lit 64) (.bin .xor .i64 (.var 10) (.lit 1)))) (.lit 64)), (.lit 0), false⟩
def k_50 : CF := ⟨.neq, (.bin .rem .u64 (.conv .u64 (.bin .mul .i64 (.lit 64) (.var 10))) (.lit 64)), (.lit 0), false⟩
def k_51 : CF := ⟨.neq, (.var 3), (.var 3), false⟩
def m_0 : NF := ⟨(.bin .quo .u64 (.conv .u64 (.bin .add .i64 (.lit 320) (.bin .mul .i64 (.lit 8) (.bin .rem .i64 (.bin .quo .i64 (.bin .quo .i64 (.conv .i64 (.bin .quo .u64 (.conv .u64 (.bin .add .i64 (.bin .mul .i64 (.lit 64) (.bin .xor .i64 (.var 10) (.lit 1))) (.bin .mul .i64 (.lit 8) (.var 11)))) (.lit 64))) (.lit 8)) (.lit 8)) (.lit 8))))) (.lit 64)), 5⟩
def m_1 : NF := ⟨(.bin .quo .u64 (.conv .u64 (.bin .add .i64 (.lit 320) (.bin .mul .i64 (.lit 8) (.bin .rem .i64 (.bin .quo .i64 (.bin .quo .i64 (.conv .i64 (.bin .quo .u64 (.conv .u64 (.bin .add .i64 (.bin .mul .i64 (.lit 64) (.var 10)) (.bin .mul .i64 (.lit 8) (.var 11)))) (.lit 64))) (.lit 8)) (.lit 8)) (.lit 8))))) (.lit 64)), 5⟩
def m_2 : NF := ⟨(.bin .quo .u64 (.conv .u64 (.bin .add .i64 (.lit 320) (.bin .mul .i64 (.lit 8) (.bin .rem .i64 (.bin .quo .i64 (.bin .quo .i64 (.conv .i64 (.bin .quo .u64 (.conv .u64 (.bin .mul .i64 (.lit 64) (.bin .xor .i64 (.var 10) (.lit 1)))) (.lit 64))) (.lit 8)) (.lit 8)) (.lit 8))))) (.lit 64)), 5⟩
def m_3 : NF := ⟨(.bin .quo .u64 (.conv .u64 (.bin .add .i64 (.lit 320) (.bin .mul .i64 (.lit 8) (.bin .rem .i64 (.bin .quo .i64 (.bin .quo .i64 (.conv .i64 (.bin .quo .u64 (.conv .u64 (.bin .mul .i64 (.lit 64) (.var 10))) (.lit 64))) (.lit 8)) (.lit 8)) (.lit 8))))) (.lit 64)), 5⟩
def m_4 : NF := ⟨(.bin .quo .u64 (.conv .u64 (.bin .add .i64 (.lit 320) (.bin .mul .i64 (.lit 8) (.bin .rem .i64 (.bin .quo .i64 (.bin .quo .i64 (.var 10) (.lit 8)) (.lit 8)) (.lit 8))))) (.lit 64)), 5⟩
def m_5 : NF := ⟨(.bin .quo .u64 (.conv .u64 (.bin .add .i64 (.lit 448) (.bin .mul .i64 (.lit 8) (.bin .rem .i64 (.bin .quo .i64 (.conv .i64 (.bin .quo .u64 (.conv .u64 (.bin .add .i64 (.bin .mul .i64 (.lit 64) (.bin .xor .i64 (.var 10) (.lit 1))) (.bin .mul .i64 (.lit 8) (.var 11)))) (.lit 64))) (.lit 8)) (.lit 8))))) (.lit 64)), 7⟩
def m_6 : NF := ⟨(.bin .quo .u64 (.conv .u64 (.bin .add .i64 (.lit 448) (.bin .mul .i64 (.lit 8) (.bin .rem .i64 (.bin .quo .i64 (.conv .i64 (.bin .quo .u64 (.conv .u64 (.bin .add .i64 (.bin .mul .i64 (.lit 64) (.var 10)) (.bin .mul .i64 (.lit 8) (.var 11)))) (.lit 64))) (.lit 8)) (.lit 8))))) (.lit 64)), 7⟩
def m_7 : NF := ⟨(.bin .quo .u64 (.conv .u64 (.bin .add .i64 (.lit 448) (.bin .mul .i64 (.lit 8) (.bin .rem .i64 (.bin .quo .i64 (.conv .i64 (.bin .quo .u64 (.conv .u64 (.bin .mul .i64 (.lit 64) (.bin .xor .i64 (.var 10) (.lit 1)))) (.lit 64))) (.lit 8)) (.lit 8))))) (.lit 64)), 7⟩
def m_8 : NF := ⟨(.bin .quo .u64 (.conv .u64 (.bin .add .i64 (.lit 448) (.bin .mul .i64 (.lit 8) (.bin .rem .i64 (.bin .quo .i64 (.conv .i64 (.bin .quo .u64 (.conv .u64 (.bin .mul .i64 (.lit 64) (.var 10))) (.lit 64))) (.lit 8)) (.lit 8))))) (.lit 64)), 7⟩
def m_9 : NF := ⟨(.bin .quo .u64 (.conv .u64 (.bin .add .i64 (.lit 448) (.bin .mul .i64 (.lit 8) (.bin .rem .i64 (.bin .quo .i64 (.var 10) (.lit 8)) (.lit 8))))) (.lit 64)), 7⟩
def m_10 : NF := ⟨(.bin .quo .u64 (.conv .u64 (.bin .add .i64 (.lit 512) (.bin .mul .i64 (.lit 8) (.bin .rem .i64 (.conv .i64 (.bin .quo .u64 (.conv .u64 (.bin .add .i64 (.bin .mul .i64 (.lit 64) (.var 10)) (.bin .mul .i64 (.lit 8) (.var 11)))) (.lit 64))) (.lit 8))))) (.lit 64)), 8⟩
def m_11 : NF := ⟨(.bin .quo .u64 (.conv .u64 (.bin .add .i64 (.lit 512) (.bin .mul .i64 (.lit 8) (.bin .rem .i64 (.conv .i64 (.bin .quo .u64 (.conv .u64 (.bin .mul .i64 (.lit 64) (.var 10))) (.lit 64))) (.lit 8))))) (.lit 64)), 8⟩
def m_12 : NF := ⟨(.bin .quo .u64 (.conv .u64 (.bin .add .i64 (.lit 576) (.bin .mul .i64 (.lit 8) (.bin .rem .i64 (.conv .i64 (.bin .quo .u64 (.conv .u64 (.bin .add .i64 (.bin .mul .i64 (.lit 64) (.bin .xor .i64 (.var 10) (.lit 1))) (.bin .mul .i64 (.lit 8) (.var 11)))) (.lit 64))) (.lit 8))))) (.lit 64)), 9⟩
def m_13 : NF := ⟨(.bin .quo .u64 (.conv .u64 (.bin .add .i64 (.lit 576) (.bin .mul .i64 (.lit 8) (.bin .rem .i64 (.conv .i64 (.bin .quo .u64 (.conv .u64 (.bin .add .i64 (.bin .mul .i64 (.lit 64) (.var 10)) (.bin .mul .i64 (.lit 8) (.var 11)))) (.lit 64))) (.lit 8))))) (.lit 64)), 9⟩
def m_14 : NF := ⟨(.bin .quo .u64 (.conv .u64 (.bin .add .i64 (.lit 576) (.bin .mul .i64 (.lit 8) (.bin .rem .i64 (.conv .i64 (.bin .quo .u64 (.conv .u64 (.bin .mul .i64 (.lit 64) (.bin .xor .i64 (.var 10) (.lit 1)))) (.lit 64))) (.lit 8))))) (.lit 64)), 9⟩
def m_15 : NF := ⟨(.bin .quo .u64 (.conv .u64 (.bin .add .i64 (.lit 576) (.bin .mul .i64 (.lit 8) (.bin .rem .i64 (.conv .i64 (.bin .quo .u64 (.conv .u64 (.bin .mul .i64 (.lit 64) (.var 10))) (.lit 64))) (.lit 8))))) (.lit 64)), 9⟩
def m_16 : NF := ⟨(.bin .quo .u64 (.conv .u64 (.bin .add .i64 (.lit 576) (.bin .mul .i64 (.lit 8) (.bin .rem .i64 (.var 10) (.lit 8))))) (.lit 64)), 9⟩
def m_17 : NF := ⟨(.bin .quo .u64 (.conv .u64 (.bin .add .i64 (.lit 640) (.conv .i64 (.bin .and .u64 (.bin .shr .u64 (.conv .u64 (.bin .add .i64 (.bin .mul .i64 (.lit 64) (.bin .xor .i64 (.var 10) (.lit 1))) (.bin .mul .i64 (.lit 8) (.var 11)))) (.lit 0)) (.lit 63))))) (.lit 64)), 10⟩
def m_18 : NF := ⟨(.bin .quo .u64 (.conv .u64 (.bin .add .i64 (.lit 640) (.conv .i64 (.bin .and .u64 (.bin .shr .u64 (.conv .u64 (.bin .add .i64 (.bin .mul .i64 (.lit 64) (.var 10)) (.bin .mul .i64 (.lit 8) (.var 11)))) (.lit 0)) (.lit 63))))) (.lit 64)), 10⟩
def m_19 : NF := ⟨(.bin .rem .u64 (.conv .u64 (.bin .add .i64 (.lit 320) (.bin .mul .i64 (.lit 8) (.bin .rem .i64 (.bin .quo .i64 (.bin .quo .i64 (.conv .i64 (.bin .quo .u64 (.conv .u64 (.bin .add .i64 (.bin .mul .i64 (.lit 64) (.bin .xor .i64 (.var 10) (.lit 1))) (.bin .mul .i64 (.lit 8) (.var 11)))) (.lit 64))) (.lit 8)) (.lit 8)) (.lit 8))))) (.lit 8)), 0⟩
def m_20 : NF := ⟨(.bin .rem .u64 (.conv .u64 (.bin .add .i64 (.lit 320) (.bin .mul .i64 (.lit 8) (.bin .rem .i64 (.bin .quo .i64 (.bin .quo .i64 (.conv .i64 (.bin .quo .u64 (.conv .u64 (.bin .add .i64 (.bin .mul .i64 (.lit 64) (.var 10)) (.bin .mul .i64 (.lit 8) (.var 11)))) (.lit 64))) (.lit 8)) (.lit 8)) (.lit 8))))) (.lit 8)), 0⟩
def m_21 : NF := ⟨(.bin .rem .u64 (.conv .u64 (.bin .add .i64 (.lit 320) (.bin .mul .i64 (.lit 8) (.bin .rem .i64 (.bin .quo .i64 (.bin .quo .i64 (.conv .i64 (.bin .quo .u64 (.conv .u64 (.bin .mul .i64 (.lit 64) (.bin .xor .i64 (.var 10) (.lit 1)))) (.lit 64))) (.lit 8)) (.lit 8)) (.lit 8))))) (.lit 8)), 0⟩
def m_22 : NF := ⟨(.bin .rem .u64 (.conv .u64 (.bin .add .i64 (.lit 320) (.bin .mul .i64 (.lit 8) (.bin .rem .i64 (.bin .quo .i64 (.bin .quo .i64 (.conv .i64 (.bin .quo .u64 (.conv .u64 (.bin .mul .i64 (.lit 64) (.var 10))) (.lit 64))) (.lit 8)) (.lit 8)) (.lit 8))))) (.lit 8)), 0⟩
def m_23 : NF := ⟨(.bin .rem .u64 (.conv .u64 (.bin .add .i64 (.lit 320) (.bin .mul .i64 (.lit 8) (.bin .rem .i64 (.bin .quo .i64 (.bin .quo .i64 (.var 10) (.lit 8)) (.lit 8)) (.lit 8))))) (.lit 8)), 0⟩
def m_24 : NF := ⟨(.bin .rem .u64 (.conv .u64 (.bin .add .i64 (.lit 448) (.bin .mul .i64 (.lit 8) (.bin .rem .i64 (.bin .quo .i64 (.conv .i64 (.bin .quo .u64 (.conv .u64 (.bin .add .i64 (.bin .mul .i64 (.lit 64) (.bin .xor .i64 (.var 10) (.lit 1))) (.bin .mul .i64 (.lit 8) (.var 11)))) (.lit 64))) (.lit 8)) (.lit 8))))) (.lit 8)), 0⟩
def m_25 : NF := ⟨(.bin .rem .u64 (.conv .u64 (.bin .add .i64 (.lit 448) (.bin .mul .i64 (.lit 8) (.bin .rem .i64 (.bin .quo .i64 (.conv .i64 (.bin .quo .u64 (.conv .u64 (.bin .add .i64 (.bin .mul .i64 (.lit 64) (.var 10)) (.bin .mul .i64 (.lit 8) (.var 11)))) (.lit 64))) (.lit 8)) (.lit 8))))) (.lit 8)), 0⟩
def m_26 : NF := ⟨(.bin .rem .u64 (.conv .u64 (.bin .add .i64 (.lit 448) (.bin .mul .i64 (.lit 8) (.bin .rem .i64 (.bin .quo .i64 (.conv .i64 (.bin .quo .u64 (.conv .u64 (.bin .mul .i64 (.lit 64) (.bin .xor .i64 (.var 10) (.lit 1)))) (.lit 64))) (.lit 8)) (.lit 8))))) (.lit 8)), 0⟩
def m_27 : NF := ⟨(.bin .rem .u64 (.conv .u64 (.bin .add .i64 (.lit 448) (.bin .mul .i64 (.lit 8) (.bin .rem .i64 (.bin .quo .i64 (.conv .i64 (.bin .quo .u64 (.conv .u64 (.bin .mul .i64 (.lit 64) (.var 10))) (.lit 64))) (.lit 8)) (.lit 8))))) (.lit 8)), 0⟩
def m_28 : NF := ⟨(.bin .rem .u64 (.conv .u64 (.bin .add .i64 (.lit 448) (.bin .mul .i64 (.lit 8) (.bin .rem .i64 (.bin .quo .i64 (.var 10) (.lit 8)) (.lit 8))))) (.lit 8)), 0⟩
def m_29 : NF := ⟨(.bin .rem .u64 (.conv .u64 (.bin .add .i64 (.lit 512) (.bin .mul .i64 (.lit 8) (.bin .rem .i64 (.conv .i64 (.bin .quo .u64 (.conv .u64 (.bin .add .i64 (.bin .mul .i64 (.lit 64) (.var 10)) (.bin .mul .i64 (.lit 8) (.var 11)))) (.lit 64))) (.lit 8))))) (.lit 8)), 0⟩
def m_30 : NF := ⟨(.bin .rem .u64 (.conv .u64 (.bin .add .i64 (.lit 512) (.bin .mul .i64 (.lit 8) (.bin .rem .i64 (.conv .i64 (.bin .quo .u64 (.conv .u64 (.bin .mul .i64 (.lit 64) (.var 10))) (.lit 64))) (.lit 8))))) (.lit 8)), 0⟩
def m_31 : NF := ⟨(.bin .rem .u64 (.conv .u64 (.bin .add .i64 (.lit 576) (.bin .mul .i64 (.lit 8) (.bin .rem .i64 (.conv .i64 (.bin .quo .u64 (.conv .u64 (.bin .add .i64 (.bin .mul .i64 (.lit 64) (.bin .xor .i64 (.var 10) (.lit 1))) (.bin .mul .i64 (.lit 8) (.var 11)))) (.lit 64))) (.lit 8))))) (.lit 8)), 0⟩
def m_32 : NF := ⟨(.bin .rem .u64 (.conv .u64 (.bin .add .i64 (.lit 576) (.bin .mul .i64 (.lit 8) (.bin .rem .i64 (.conv .i64 (.bin .quo .u64 (.conv .u64 (.bin .add .i64 (.bin .mul .i64 (.lit 64) (.var 10)) (.bin .mul .i64 (.lit 8) (.var 11)))) (.lit 64))) (.lit 8))))) (.lit 8)), 0⟩
def m_33 : NF := ⟨(.bin .rem .u64 (.conv .u64 (.bin .add .i64 (.lit 576) (.bin .mul .i64 (.lit 8) (.bin .rem .i64 (.conv .i64 (.bin .quo .u64 (.conv .u64 (.bin .mul .i64 (.lit 64) (.bin .xor .i64 (.var 10) (.lit 1)))) (.lit 64))) (.lit 8))))) (.lit 8)), 0⟩
def m_34 : NF := ⟨(.bin .rem .u64 (.conv .u64 (.bin .add .i64 (.lit 576) (.bin .mul .i64 (.lit 8) (.bin .rem .i64 (.conv .i64 (.bin .quo .u64 (.conv .u64 (.bin .mul .i64 (.lit 64) (.var 10))) (.lit 64))) (.lit 8))))) (.lit 8)), 0⟩
def m_35 : NF := ⟨(.bin .rem .u64 (.conv .u64 (.bin .add .i64 (.lit 576) (.bin .mul .i64 (.lit 8) (.bin .rem .i64 (.var 10) (.lit 8))))) (.lit 8)), 0⟩
def m_36 : NF := ⟨(.bin .rem .u64 (.conv .u64 (.bin .add .i64 (.lit 640) (.conv .i64 (.bin .and .u64 (.bin .shr .u64 (.conv .u64 (.bin .add .i64 (.bin .mul .i64 (.lit 64) (.bin .xor .i64 (.var 10) (.lit 1))) (.bin .mul .i64 (.lit 8) (.var 11)))) (.lit 0)) (.lit 63))))) (.lit 8)), 0⟩
def m_37 : NF := ⟨(.bin .rem .u64 (.conv .u64 (.bin .add .i64 (.lit 640) (.conv .i64 (.bin .and .u64 (.bin .shr .u64 (.conv .u64 (.bin .add .i64 (.bin .mul .i64 (.lit 64) (.var 10)) (.bin .mul .i64 (.lit 8) (.var 11)))) (.lit 0)) (.lit 63))))) (.lit 8)), 0⟩
def lC : List CF := [k_0, k_1, k_2, k_3, k_4, k_5, k_6, k_7, k_8, k_9, k_10, k_11, k_12, k_13, k_14, k_15, k_16, k_17, k_18, k_19, k_20, k_21, k_22, k_23, k_24, k_25, k_26, k_27, k_28, k_29, k_30, k_31, k_32, k_33, k_34, k_35, k_36, k_37, k_38, k_39, k_40, k_41, k_42, k_43, k_44, k_45, k_46, k_47, k_48, k_49, k_50, k_51]
def lN : List NF := [m_0, m_1, m_2, m_3, m_4, m_5, m_6, m_7, m_8, m_9, m_10, m_11, m_12, m_13, m_14, m_15, m_16, m_17, m_18, m_19, m_20, m_21, m_22, m_23, m_24, m_25, m_26, m_27, m_28, m_29, m_30, m_31, m_32, m_33, m_34, m_35, m_36, m_37]
section
variable {a0 a1 a2 v n o : Int}
theorem c_0 (h : Is n o) : CFok (sg a0 a1 a2 v n o) k_0 := by
  refine CFok.ex (hbd h) rfl rfl ?_
  obtain ⟨h0, h1, h2, h3⟩ := h
  show (((((64 * (if n % 2 = 0 then n + 1 else n - 1)) + (8 * o)) / 64) : Int) == (((64 * n) + (8 * o)) / 64)) = false
  obtain ⟨x, hx, x0, x1⟩ := xo n
  simp only [hx]
  refine beq_eq_false_iff_ne.2 ?_
  omega
theorem c_1 (h : Is n o) : CFok (sg a0 a1 a2 v n o) k_1 := by
  refine CFok.ex (hbd h) rfl rfl ?_
  obtain ⟨h0, h1, h2, h3⟩ := h
  show ((((64 * (if n % 2 = 0 then n + 1 else n - 1)) / 64) : Int) == ((64 * (if n % 2 = 0 then n + 1 else n - 1)) / 64)) = true
  obtain ⟨x, hx, x0, x1⟩ := xo n
  simp only [hx]
  refine beq_iff_eq.2 ?_
  omega
theorem c_2 (h : Is n o) : CFok (sg a0 a1 a2 v n o) k_2 := by
  refine CFok.ex (hbd h) rfl rfl ?_
  obtain ⟨h0, h1, h2, h3⟩ := h
  show ((((64 * n) / 64) : Int) == ((64 * n) / 64)) = true
  refine beq_iff_eq.2 ?_
  omega
theorem c_3 (h : Is n o) : CFok (sg a0 a1 a2 v n o) k_3 := by
  refine CFok.ex (hbd h) rfl rfl ?_
  obtain ⟨h0, h1, h2, h3⟩ := h
  show ((((64 * n) + (8 * o)) : Int) == ((64 * n) + (8 * o))) = true
  refine beq_iff_eq.2 ?_
  omega
theorem c_4 (h : Is n o) : CFok (sg a0 a1 a2 v n o) k_4 := by
  refine CFok.ex (hbd h) rfl rfl ?_
  obtain ⟨h0, h1, h2, h3⟩ := h
  show (((320 + (8 * (((((64 * n) / 64) / 8) / 8) % 8))) : Int) == (320 + (8 * ((((((64 * (if n % 2 = 0 then n + 1 else n - 1)) + (8 * o)) / 64) / 8) / 8) % 8)))) = true
  obtain ⟨x, hx, x0, x1⟩ := xo n
  simp only [hx]
  refine beq_iff_eq.2 ?_
  omega
theorem c_5 (h : Is n o) : CFok (sg a0 a1 a2 v n o) k_5 := by
  refine CFok.ex (hbd h) rfl rfl ?_
  obtain ⟨h0, h1, h2, h3⟩ := h
  show (((320 + (8 * (((((64 * n) / 64) / 8) / 8) % 8))) : Int) == (320 + (8 * ((((((64 * n) + (8 * o)) / 64) / 8) / 8) % 8)))) = true
  refine beq_iff_eq.2 ?_
  omega
theorem c_6 (h : Is n o) : CFok (sg a0 a1 a2 v n o) k_6 := by
  refine CFok.ex (hbd h) rfl rfl ?_
  obtain ⟨h0, h1, h2, h3⟩ := h
  show (((320 + (8 * (((((64 * n) / 64) / 8) / 8) % 8))) : Int) == (320 + (8 * (((((64 * (if n % 2 = 0 then n + 1 else n - 1)) / 64) / 8) / 8) % 8)))) = true
  obtain ⟨x, hx, x0, x1⟩ := xo n
  simp only [hx]
  refine beq_iff_eq.2 ?_
  omega
theorem c_7 (h : Is n o) : CFok (sg a0 a1 a2 v n o) k_7 := by
  refine CFok.ex (hbd h) rfl rfl ?_
  obtain ⟨h0, h1, h2, h3⟩ := h
  show (((320 + (8 * (((((64 * n) / 64) / 8) / 8) % 8))) : Int) == (320 + (8 * (((n / 8) / 8) % 8)))) = true
  refine beq_iff_eq.2 ?_
  omega
theorem c_8 (h : Is n o) : CFok (sg a0 a1 a2 v n o) k_8 := by
  refine CFok.ex (hbd h) rfl rfl ?_
  obtain ⟨h0, h1, h2, h3⟩ := h
  show (((448 + (8 * (((((64 * n) + (8 * o)) / 64) / 8) % 8))) : Int) == (448 + (8 * (((((64 * (if n % 2 = 0 then n + 1 else n - 1)) + (8 * o)) / 64) / 8) % 8)))) = true
  obtain ⟨x, hx, x0, x1⟩ := xo n
  simp only [hx]
  refine beq_iff_eq.2 ?_
  omega
theorem c_9 (h : Is n o) : CFok (sg a0 a1 a2 v n o) k_9 := by
  refine CFok.ex (hbd h) rfl rfl ?_
  obtain ⟨h0, h1, h2, h3⟩ := h
  show (((448 + (8 * (((((64 * n) + (8 * o)) / 64) / 8) % 8))) : Int) == (448 + (8 * ((((64 * (if n % 2 = 0 then n + 1 else n - 1)) / 64) / 8) % 8)))) = true
  obtain ⟨x, hx, x0, x1⟩ := xo n
  simp only [hx]
  refine beq_iff_eq.2 ?_
  omega
theorem c_10 (h : Is n o) : CFok (sg a0 a1 a2 v n o) k_10 := by
  refine CFok.ex (hbd h) rfl rfl ?_
  obtain ⟨h0, h1, h2, h3⟩ := h
  show (((448 + (8 * (((((64 * n) + (8 * o)) / 64) / 8) % 8))) : Int) == (448 + (8 * ((((64 * n) / 64) / 8) % 8)))) = true
  refine beq_iff_eq.2 ?_
  omega
theorem c_11 (h : Is n o) : CFok (sg a0 a1 a2 v n o) k_11 := by
  refine CFok.ex (hbd h) rfl rfl ?_
  obtain ⟨h0, h1, h2, h3⟩ := h
  show (((448 + (8 * (((((64 * n) + (8 * o)) / 64) / 8) % 8))) : Int) == (448 + (8 * ((n / 8) % 8)))) = true
  refine beq_iff_eq.2 ?_
  omega
theorem c_12 (h : Is n o) : CFok (sg a0 a1 a2 v n o) k_12 := by
  refine CFok.ex (hbd h) rfl rfl ?_
  obtain ⟨h0, h1, h2, h3⟩ := h
  show (((448 + (8 * ((((64 * n) / 64) / 8) % 8))) : Int) == (448 + (8 * (((((64 * n) + (8 * o)) / 64) / 8) % 8)))) = true
  refine beq_iff_eq.2 ?_
  omega
theorem c_13 (h : Is n o) : CFok (sg a0 a1 a2 v n o) k_13 := by
  refine CFok.ex (hbd h) rfl rfl ?_
  obtain ⟨h0, h1, h2, h3⟩ := h
  show (((512 + (8 * (((64 * n) / 64) % 8))) : Int) == (512 + (8 * ((((64 * n) + (8 * o)) / 64) % 8)))) = true
  refine beq_iff_eq.2 ?_
  omega
theorem c_14 (h : Is n o) : CFok (sg a0 a1 a2 v n o) k_14 := by
  refine CFok.ex (hbd h) rfl rfl ?_
  obtain ⟨h0, h1, h2, h3⟩ := h
  show (((576 + (8 * (((64 * (if n % 2 = 0 then n + 1 else n - 1)) / 64) % 8))) : Int) == (576 + (8 * ((((64 * (if n % 2 = 0 then n + 1 else n - 1)) + (8 * o)) / 64) % 8)))) = true
  obtain ⟨x, hx, x0, x1⟩ := xo n
  simp only [hx]
  refine beq_iff_eq.2 ?_
  omega
theorem c_15 (h : Is n o) : CFok (sg a0 a1 a2 v n o) k_15 := by
  refine CFok.ex (hbd h) rfl rfl ?_
  obtain ⟨h0, h1, h2, h3⟩ := h
  show (((576 + (8 * (((64 * (if n % 2 = 0 then n + 1 else n - 1)) / 64) % 8))) : Int) == (576 + (8 * ((((64 * n) + (8 * o)) / 64) % 8)))) = false
  obtain ⟨x, hx, x0, x1⟩ := xo n
  simp only [hx]
  refine beq_eq_false_iff_ne.2 ?_
  omega
theorem c_16 (h : Is n o) : CFok (sg a0 a1 a2 v n o) k_16 := by
  refine CFok.ex (hbd h) rfl rfl ?_
  obtain ⟨h0, h1, h2, h3⟩ := h
  show (((576 + (8 * (((64 * n) / 64) % 8))) : Int) == (576 + (8 * ((((64 * n) + (8 * o)) / 64) % 8)))) = true
  refine beq_iff_eq.2 ?_
  omega
theorem c_17 (h : Is n o) : CFok (sg a0 a1 a2 v n o) k_17 := by
  refine CFok.ex (hbd h) rfl rfl ?_
  obtain ⟨h0, h1, h2, h3⟩ := h
  show (((576 + (8 * (((64 * n) / 64) % 8))) : Int) == (576 + (8 * (((64 * (if n % 2 = 0 then n + 1 else n - 1)) / 64) % 8)))) = false
  obtain ⟨x, hx, x0, x1⟩ := xo n
  simp only [hx]
  refine beq_eq_false_iff_ne.2 ?_
  omega
theorem c_18 (h : Is n o) : CFok (sg a0 a1 a2 v n o) k_18 := by
  refine CFok.ex (hbd h) rfl rfl ?_
  obtain ⟨h0, h1, h2, h3⟩ := h
  show (((576 + (8 * (((64 * n) / 64) % 8))) : Int) == (576 + (8 * (n % 8)))) = true
  refine beq_iff_eq.2 ?_
  omega
theorem c_19 (h : Is n o) : CFok (sg a0 a1 a2 v n o) k_19 := by
  refine CFok.ex (hbd h) rfl rfl ?_
  obtain ⟨h0, h1, h2, h3⟩ := h
  show (((640 + ((((64 * n) + (8 * o)) / 1) % (63 + 1))) : Int) == (640 + ((((64 * (if n % 2 = 0 then n + 1 else n - 1)) + (8 * o)) / 1) % (63 + 1)))) = true
  obtain ⟨x, hx, x0, x1⟩ := xo n
  simp only [hx]
  refine beq_iff_eq.2 ?_
  omega
theorem c_20 (h : Is n o) : CFok (sg a0 a1 a2 v n o) k_20 := by
  refine CFok.ex (hbd h) rfl rfl ?_
  obtain ⟨h0, h1, h2, h3⟩ := h
  show (((64 * (if n % 2 = 0 then n + 1 else n - 1)) : Int) == (64 * (if n % 2 = 0 then n + 1 else n - 1))) = true
  obtain ⟨x, hx, x0, x1⟩ := xo n
  simp only [hx]
  refine beq_iff_eq.2 ?_
  omega
theorem c_21 (h : Is n o) : CFok (sg a0 a1 a2 v n o) k_21 := by
  refine CFok.ex (hbd h) rfl rfl ?_
  obtain ⟨h0, h1, h2, h3⟩ := h
  show (((64 * n) : Int) == (64 * n)) = true
  refine beq_iff_eq.2 ?_
  omega
theorem c_22 (h : Is n o) : CFok (sg a0 a1 a2 v n o) k_22 := by
  refine CFok.ex (hbd h) rfl rfl ?_
  obtain ⟨h0, h1, h2, h3⟩ := h
  show ((n : Int) == ((64 * n) / 64)) = true
  refine beq_iff_eq.2 ?_
  omega
theorem c_23 (h : Is n o) : CFok (sg a0 a1 a2 v n o) k_23 := by
  refine CFok.ex (hbd h) rfl rfl ?_
  obtain ⟨h0, h1, h2, h3⟩ := h
  show decide (((((64 * (if n % 2 = 0 then n + 1 else n - 1)) + (8 * o)) / 64) : Int) ≥ 512) = false
  obtain ⟨x, hx, x0, x1⟩ := xo n
  simp only [hx]
  refine decide_eq_false ?_
  omega
theorem c_24 (h : Is n o) : CFok (sg a0 a1 a2 v n o) k_24 := by
  refine CFok.ex (hbd h) rfl rfl ?_
  obtain ⟨h0, h1, h2, h3⟩ := h
  show decide (((((64 * n) + (8 * o)) / 64) : Int) ≥ 512) = false
  refine decide_eq_false ?_
  omega
theorem c_25 (h : Is n o) : CFok (sg a0 a1 a2 v n o) k_25 := by
  refine CFok.ex (hbd h) rfl rfl ?_
  obtain ⟨h0, h1, h2, h3⟩ := h
  show decide ((((64 * (if n % 2 = 0 then n + 1 else n - 1)) / 64) : Int) ≥ 0) = true
  obtain ⟨x, hx, x0, x1⟩ := xo n
  simp only [hx]
  refine decide_eq_true ?_
  omega
theorem c_26 (h : Is n o) : CFok (sg a0 a1 a2 v n o) k_26 := by
  refine CFok.ex (hbd h) rfl rfl ?_
  obtain ⟨h0, h1, h2, h3⟩ := h
  show decide ((((64 * (if n % 2 = 0 then n + 1 else n - 1)) / 64) : Int) ≥ 512) = false
  obtain ⟨x, hx, x0, x1⟩ := xo n
  simp only [hx]
  refine decide_eq_false ?_
  omega
theorem c_27 (h : Is n o) : CFok (sg a0 a1 a2 v n o) k_27 := by
  refine CFok.ex (hbd h) rfl rfl ?_
  obtain ⟨h0, h1, h2, h3⟩ := h
  show decide ((((64 * n) / 64) : Int) ≥ 0) = true
  refine decide_eq_true ?_
  omega
theorem c_28 (h : Is n o) : CFok (sg a0 a1 a2 v n o) k_28 := by
  refine CFok.ex (hbd h) rfl rfl ?_
  obtain ⟨h0, h1, h2, h3⟩ := h
  show decide ((((64 * n) / 64) : Int) ≥ 512) = false
  refine decide_eq_false ?_
  omega
theorem c_29 (h : Is n o) : CFok (sg a0 a1 a2 v n o) k_29 := by
  refine CFok.ex (hbd h) rfl rfl ?_
  obtain ⟨h0, h1, h2, h3⟩ := h
  show decide ((((64 * (if n % 2 = 0 then n + 1 else n - 1)) + (8 * o)) : Int) ≥ 32768) = false
  obtain ⟨x, hx, x0, x1⟩ := xo n
  simp only [hx]
  refine decide_eq_false ?_
  omega
theorem c_30 (h : Is n o) : CFok (sg a0 a1 a2 v n o) k_30 := by
  refine CFok.ex (hbd h) rfl rfl ?_
  obtain ⟨h0, h1, h2, h3⟩ := h
  show decide ((((64 * n) + (8 * o)) : Int) ≥ 32768) = false
  refine decide_eq_false ?_
  omega
theorem c_31 (h : Is n o) : CFok (sg a0 a1 a2 v n o) k_31 := by
  refine CFok.ex (hbd h) rfl rfl ?_
  obtain ⟨h0, h1, h2, h3⟩ := h
  show decide (((64 * (if n % 2 = 0 then n + 1 else n - 1)) : Int) ≥ 32768) = false
  obtain ⟨x, hx, x0, x1⟩ := xo n
  simp only [hx]
  refine decide_eq_false ?_
  omega
theorem c_32 (h : Is n o) : CFok (sg a0 a1 a2 v n o) k_32 := by
  refine CFok.ex (hbd h) rfl rfl ?_
  obtain ⟨h0, h1, h2, h3⟩ := h
  show decide (((64 * n) : Int) ≥ 32768) = false
  refine decide_eq_false ?_
  omega
theorem c_33 (h : Is n o) : CFok (sg a0 a1 a2 v n o) k_33 := by
  refine CFok.ex (hbd h) rfl rfl ?_
  obtain ⟨h0, h1, h2, h3⟩ := h
  show decide ((n : Int) ≥ 512) = false
  refine decide_eq_false ?_
  omega
theorem c_34 (h : Is n o) : CFok (sg a0 a1 a2 v n o) k_34 := by
  refine CFok.ex (hbd h) rfl rfl ?_
  obtain ⟨h0, h1, h2, h3⟩ := h
  show decide ((((64 * n) + (8 * o)) : Int) > 18446744073709551615) = false
  refine decide_eq_false ?_
  omega
theorem c_35 (h : Is n o) : CFok (sg a0 a1 a2 v n o) k_35 := by
  refine CFok.ex (hbd h) rfl rfl ?_
  obtain ⟨h0, h1, h2, h3⟩ := h
  show decide (((64 * (if n % 2 = 0 then n + 1 else n - 1)) : Int) > 18446744073709551615) = false
  obtain ⟨x, hx, x0, x1⟩ := xo n
  simp only [hx]
  refine decide_eq_false ?_
  omega
theorem c_36 (h : Is n o) : CFok (sg a0 a1 a2 v n o) k_36 := by
  refine CFok.ex (hbd h) rfl rfl ?_
  obtain ⟨h0, h1, h2, h3⟩ := h
  show decide (((64 * n) : Int) > 18446744073709551615) = false
  refine decide_eq_false ?_
  omega
theorem c_37 (h : Is n o) : CFok (sg a0 a1 a2 v n o) k_37 := by
  refine CFok.ex (hbd h) rfl rfl ?_
  obtain ⟨h0, h1, h2, h3⟩ := h
  show decide ((((64 * (if n % 2 = 0 then n + 1 else n - 1)) / 64) : Int) ≤ 511) = true
  obtain ⟨x, hx, x0, x1⟩ := xo n
  simp only [hx]
  refine decide_eq_true ?_
  omega
theorem c_38 (h : Is n o) : CFok (sg a0 a1 a2 v n o) k_38 := by
  refine CFok.ex (hbd h) rfl rfl ?_
  obtain ⟨h0, h1, h2, h3⟩ := h
  show decide ((((64 * n) / 64) : Int) ≤ 511) = true
  refine decide_eq_true ?_
  omega
theorem c_39 (h : Is n o) : CFok (sg a0 a1 a2 v n o) k_39 := by
  refine CFok.ex (hbd h) rfl rfl ?_
  obtain ⟨h0, h1, h2, h3⟩ := h
  show decide (((((64 * (if n % 2 = 0 then n + 1 else n - 1)) + (8 * o)) / 64) : Int) < 0) = false
  obtain ⟨x, hx, x0, x1⟩ := xo n
  simp only [hx]
  refine decide_eq_false ?_
  omega
theorem c_40 (h : Is n o) : CFok (sg a0 a1 a2 v n o) k_40 := by
  refine CFok.ex (hbd h) rfl rfl ?_
  obtain ⟨h0, h1, h2, h3⟩ := h
  show decide (((((64 * n) + (8 * o)) / 64) : Int) < 0) = false
  refine decide_eq_false ?_
  omega
theorem c_41 (h : Is n o) : CFok (sg a0 a1 a2 v n o) k_41 := by
  refine CFok.ex (hbd h) rfl rfl ?_
  obtain ⟨h0, h1, h2, h3⟩ := h
  show decide ((((64 * (if n % 2 = 0 then n + 1 else n - 1)) / 64) : Int) < 0) = false
  obtain ⟨x, hx, x0, x1⟩ := xo n
  simp only [hx]
  refine decide_eq_false ?_
  omega
theorem c_42 (h : Is n o) : CFok (sg a0 a1 a2 v n o) k_42 := by
  refine CFok.ex (hbd h) rfl rfl ?_
  obtain ⟨h0, h1, h2, h3⟩ := h
  show decide ((((64 * n) / 64) : Int) < 0) = false
  refine decide_eq_false ?_
  omega
theorem c_43 (h : Is n o) : CFok (sg a0 a1 a2 v n o) k_43 := by
  refine CFok.ex (hbd h) rfl rfl ?_
  obtain ⟨h0, h1, h2, h3⟩ := h
  show decide ((((64 * n) + (8 * o)) : Int) < 0) = false
  refine decide_eq_false ?_
  omega
theorem c_44 (h : Is n o) : CFok (sg a0 a1 a2 v n o) k_44 := by
  refine CFok.ex (hbd h) rfl rfl ?_
  obtain ⟨h0, h1, h2, h3⟩ := h
  show decide (((64 * (if n % 2 = 0 then n + 1 else n - 1)) : Int) < 0) = false
  obtain ⟨x, hx, x0, x1⟩ := xo n
  simp only [hx]
  refine decide_eq_false ?_
  omega
theorem c_45 (h : Is n o) : CFok (sg a0 a1 a2 v n o) k_45 := by
  refine CFok.ex (hbd h) rfl rfl ?_
  obtain ⟨h0, h1, h2, h3⟩ := h
  show decide (((64 * n) : Int) < 0) = false
  refine decide_eq_false ?_
  omega
theorem c_46 (h : Is n o) : CFok (sg a0 a1 a2 v n o) k_46 := by
  refine CFok.ex (hbd h) rfl rfl ?_
  obtain ⟨h0, h1, h2, h3⟩ := h
  show decide ((n : Int) < 0) = false
  refine decide_eq_false ?_
  omega
theorem c_47 (h : Is n o) : CFok (sg a0 a1 a2 v n o) k_47 := by
  refine CFok.ex (hbd h) rfl rfl ?_
  obtain ⟨h0, h1, h2, h3⟩ := h
  show (((((64 * (if n % 2 = 0 then n + 1 else n - 1)) + (8 * o)) % 8) : Int) != 0) = false
  obtain ⟨x, hx, x0, x1⟩ := xo n
  simp only [hx]
  refine bne_eq_false_iff_eq.2 ?_
  omega
theorem c_48 (h : Is n o) : CFok (sg a0 a1 a2 v n o) k_48 := by
  refine CFok.ex (hbd h) rfl rfl ?_
  obtain ⟨h0, h1, h2, h3⟩ := h
  show (((((64 * n) + (8 * o)) % 8) : Int) != 0) = false
  refine bne_eq_false_iff_eq.2 ?_
  omega
theorem c_49 (h : Is n o) : CFok (sg a0 a1 a2 v n o) k_49 := by
  refine CFok.ex (hbd h) rfl rfl ?_
  obtain ⟨h0, h1, h2, h3⟩ := h
  show ((((64 * (if n % 2 = 0 then n + 1 else n - 1)) % 64) : Int) != 0) = false
  obtain ⟨x, hx, x0, x1⟩ := xo n
  simp only [hx]
  refine bne_eq_false_iff_eq.2 ?_
  omega
theorem c_50 (h : Is n o) : CFok (sg a0 a1 a2 v n o) k_50 := by
  refine CFok.ex (hbd h) rfl rfl ?_
  obtain ⟨h0, h1, h2, h3⟩ := h
  show ((((64 * n) % 64) : Int) != 0) = false
  refine bne_eq_false_iff_eq.2 ?_
  omega
theorem c_51 (h : Is n o) : CFok (sg a0 a1 a2 v n o) k_51 := by
  show cmpDen .neq _ _ = false
  simp [cmpDen, k_51]
theorem n_0 (h : Is n o) : NFok (sg a0 a1 a2 v n o) m_0 := by
  refine NFok.ex (hbd h) rfl ?_
  obtain ⟨h0, h1, h2, h3⟩ := h
  show (((320 + (8 * ((((((64 * (if n % 2 = 0 then n + 1 else n - 1)) + (8 * o)) / 64) / 8) / 8) % 8))) / 64) : Int) = 5
  obtain ⟨x, hx, x0, x1⟩ := xo n
  simp only [hx]
  omega
theorem n_1 (h : Is n o) : NFok (sg a0 a1 a2 v n o) m_1 := by
  refine NFok.ex (hbd h) rfl ?_
  obtain ⟨h0, h1, h2, h3⟩ := h
  show (((320 + (8 * ((((((64 * n) + (8 * o)) / 64) / 8) / 8) % 8))) / 64) : Int) = 5
  omega
theorem n_2 (h : Is n o) : NFok (sg a0 a1 a2 v n o) m_2 := by
  refine NFok.ex (hbd h) rfl ?_
  obtain ⟨h0, h1, h2, h3⟩ := h
  show (((320 + (8 * (((((64 * (if n % 2 = 0 then n + 1 else n - 1)) / 64) / 8) / 8) % 8))) / 64) : Int) = 5
  obtain ⟨x, hx, x0, x1⟩ := xo n
  simp only [hx]
  omega
theorem n_3 (h : Is n o) : NFok (sg a0 a1 a2 v n o) m_3 := by
  refine NFok.ex (hbd h) rfl ?_
  obtain ⟨h0, h1, h2, h3⟩ := h
  show (((320 + (8 * (((((64 * n) / 64) / 8) / 8) % 8))) / 64) : Int) = 5
  omega
theorem n_4 (h : Is n o) : NFok (sg a0 a1 a2 v n o) m_4 := by
  refine NFok.ex (hbd h) rfl ?_
  obtain ⟨h0, h1, h2, h3⟩ := h
  show (((320 + (8 * (((n / 8) / 8) % 8))) / 64) : Int) = 5
  omega
theorem n_5 (h : Is n o) : NFok (sg a0 a1 a2 v n o) m_5 := by
  refine NFok.ex (hbd h) rfl ?_
  obtain ⟨h0, h1, h2, h3⟩ := h
  show (((448 + (8 * (((((64 * (if n % 2 = 0 then n + 1 else n - 1)) + (8 * o)) / 64) / 8) % 8))) / 64) : Int) = 7
  obtain ⟨x, hx, x0, x1⟩ := xo n
  simp only [hx]
  omega
theorem n_6 (h : Is n o) : NFok (sg a0 a1 a2 v n o) m_6 := by
  refine NFok.ex (hbd h) rfl ?_
  obtain ⟨h0, h1, h2, h3⟩ := h
  show (((448 + (8 * (((((64 * n) + (8 * o)) / 64) / 8) % 8))) / 64) : Int) = 7
  omega
theorem n_7 (h : Is n o) : NFok (sg a0 a1 a2 v n o) m_7 := by
  refine NFok.ex (hbd h) rfl ?_
  obtain ⟨h0, h1, h2, h3⟩ := h
  show (((448 + (8 * ((((64 * (if n % 2 = 0 then n + 1 else n - 1)) / 64) / 8) % 8))) / 64) : Int) = 7
  obtain ⟨x, hx, x0, x1⟩ := xo n
  simp only [hx]
  omega
theorem n_8 (h : Is n o) : NFok (sg a0 a1 a2 v n o) m_8 := by
  refine NFok.ex (hbd h) rfl ?_
  obtain ⟨h0, h1, h2, h3⟩ := h
  show (((448 + (8 * ((((64 * n) / 64) / 8) % 8))) / 64) : Int) = 7
  omega
theorem n_9 (h : Is n o) : NFok (sg a0 a1 a2 v n o) m_9 := by
  refine NFok.ex (hbd h) rfl ?_
  obtain ⟨h0, h1, h2, h3⟩ := h
  show (((448 + (8 * ((n / 8) % 8))) / 64) : Int) = 7
  omega
theorem n_10 (h : Is n o) : NFok (sg a0 a1 a2 v n o) m_10 := by
  refine NFok.ex (hbd h) rfl ?_
  obtain ⟨h0, h1, h2, h3⟩ := h
  show (((512 + (8 * ((((64 * n) + (8 * o)) / 64) % 8))) / 64) : Int) = 8
  omega
theorem n_11 (h : Is n o) : NFok (sg a0 a1 a2 v n o) m_11 := by
  refine NFok.ex (hbd h) rfl ?_
  obtain ⟨h0, h1, h2, h3⟩ := h
  show (((512 + (8 * (((64 * n) / 64) % 8))) / 64) : Int) = 8
  omega
theorem n_12 (h : Is n o) : NFok (sg a0 a1 a2 v n o) m_12 := by
  refine NFok.ex (hbd h) rfl ?_
  obtain ⟨h0, h1, h2, h3⟩ := h
  show (((576 + (8 * ((((64 * (if n % 2 = 0 then n + 1 else n - 1)) + (8 * o)) / 64) % 8))) / 64) : Int) = 9
  obtain ⟨x, hx, x0, x1⟩ := xo n
  simp only [hx]
  omega
theorem n_13 (h : Is n o) : NFok (sg a0 a1 a2 v n o) m_13 := by
  refine NFok.ex (hbd h) rfl ?_
  obtain ⟨h0, h1, h2, h3⟩ := h
  show (((576 + (8 * ((((64 * n) + (8 * o)) / 64) % 8))) / 64) : Int) = 9
  omega
theorem n_14 (h : Is n o) : NFok (sg a0 a1 a2 v n o) m_14 := by
  refine NFok.ex (hbd h) rfl ?_
  obtain ⟨h0, h1, h2, h3⟩ := h
  show (((576 + (8 * (((64 * (if n % 2 = 0 then n + 1 else n - 1)) / 64) % 8))) / 64) : Int) = 9
  obtain ⟨x, hx, x0, x1⟩ := xo n
  simp only [hx]
  omega
theorem n_15 (h : Is n o) : NFok (sg a0 a1 a2 v n o) m_15 := by
  refine NFok.ex (hbd h) rfl ?_
  obtain ⟨h0, h1, h2, h3⟩ := h
  show (((576 + (8 * (((64 * n) / 64) % 8))) / 64) : Int) = 9
  omega
theorem n_16 (h : Is n o) : NFok (sg a0 a1 a2 v n o) m_16 := by
  refine NFok.ex (hbd h) rfl ?_
  obtain ⟨h0, h1, h2, h3⟩ := h
  show (((576 + (8 * (n % 8))) / 64) : Int) = 9
  omega
theorem n_17 (h : Is n o) : NFok (sg a0 a1 a2 v n o) m_17 := by
  refine NFok.ex (hbd h) rfl ?_
  obtain ⟨h0, h1, h2, h3⟩ := h
  show (((640 + ((((64 * (if n % 2 = 0 then n + 1 else n - 1)) + (8 * o)) / 1) % (63 + 1))) / 64) : Int) = 10
  obtain ⟨x, hx, x0, x1⟩ := xo n
  simp only [hx]
  omega
theorem n_18 (h : Is n o) : NFok (sg a0 a1 a2 v n o) m_18 := by
  refine NFok.ex (hbd h) rfl ?_
  obtain ⟨h0, h1, h2, h3⟩ := h
  show (((640 + ((((64 * n) + (8 * o)) / 1) % (63 + 1))) / 64) : Int) = 10
  omega
theorem n_19 (h : Is n o) : NFok (sg a0 a1 a2 v n o) m_19 := by
  refine NFok.ex (hbd h) rfl ?_
  obtain ⟨h0, h1, h2, h3⟩ := h
  show (((320 + (8 * ((((((64 * (if n % 2 = 0 then n + 1 else n - 1)) + (8 * o)) / 64) / 8) / 8) % 8))) % 8) : Int) = 0
  obtain ⟨x, hx, x0, x1⟩ := xo n
  simp only [hx]
  omega
theorem n_20 (h : Is n o) : NFok (sg a0 a1 a2 v n o) m_20 := by
  refine NFok.ex (hbd h) rfl ?_
  obtain ⟨h0, h1, h2, h3⟩ := h
  show (((320 + (8 * ((((((64 * n) + (8 * o)) / 64) / 8) / 8) % 8))) % 8) : Int) = 0
  omega
theorem n_21 (h : Is n o) : NFok (sg a0 a1 a2 v n o) m_21 := by
  refine NFok.ex (hbd h) rfl ?_
  obtain ⟨h0, h1, h2, h3⟩ := h
  show (((320 + (8 * (((((64 * (if n % 2 = 0 then n + 1 else n - 1)) / 64) / 8) / 8) % 8))) % 8) : Int) = 0
  obtain ⟨x, hx, x0, x1⟩ := xo n
  simp only [hx]
  omega
theorem n_22 (h : Is n o) : NFok (sg a0 a1 a2 v n o) m_22 := by
  refine NFok.ex (hbd h) rfl ?_
  obtain ⟨h0, h1, h2, h3⟩ := h
  show (((320 + (8 * (((((64 * n) / 64) / 8) / 8) % 8))) % 8) : Int) = 0
  omega
theorem n_23 (h : Is n o) : NFok (sg a0 a1 a2 v n o) m_23 := by
  refine NFok.ex (hbd h) rfl ?_
  obtain ⟨h0, h1, h2, h3⟩ := h
  show (((320 + (8 * (((n / 8) / 8) % 8))) % 8) : Int) = 0
  omega
theorem n_24 (h : Is n o) : NFok (sg a0 a1 a2 v n o) m_24 := by
  refine NFok.ex (hbd h) rfl ?_
  obtain ⟨h0, h1, h2, h3⟩ := h
  show (((448 + (8 * (((((64 * (if n % 2 = 0 then n + 1 else n - 1)) + (8 * o)) / 64) / 8) % 8))) % 8) : Int) = 0
  obtain ⟨x, hx, x0, x1⟩ := xo n
  simp only [hx]
  omega
theorem n_25 (h : Is n o) : NFok (sg a0 a1 a2 v n o) m_25 := by
  refine NFok.ex (hbd h) rfl ?_
  obtain ⟨h0, h1, h2, h3⟩ := h
  show (((448 + (8 * (((((64 * n) + (8 * o)) / 64) / 8) % 8))) % 8) : Int) = 0
  omega
theorem n_26 (h : Is n o) : NFok (sg a0 a1 a2 v n o) m_26 := by
  refine NFok.ex (hbd h) rfl ?_
  obtain ⟨h0, h1, h2, h3⟩ := h
  show (((448 + (8 * ((((64 * (if n % 2 = 0 then n + 1 else n - 1)) / 64) / 8) % 8))) % 8) : Int) = 0
  obtain ⟨x, hx, x0, x1⟩ := xo n
  simp only [hx]
  omega
theorem n_27 (h : Is n o) : NFok (sg a0 a1 a2 v n o) m_27 := by
  refine NFok.ex (hbd h) rfl ?_
  obtain ⟨h0, h1, h2, h3⟩ := h
  show (((448 + (8 * ((((64 * n) / 64) / 8) % 8))) % 8) : Int) = 0
  omega
theorem n_28 (h : Is n o) : NFok (sg a0 a1 a2 v n o) m_28 := by
  refine NFok.ex (hbd h) rfl ?_
  obtain ⟨h0, h1, h2, h3⟩ := h
  show (((448 + (8 * ((n / 8) % 8))) % 8) : Int) = 0
  omega
theorem n_29 (h : Is n o) : NFok (sg a0 a1 a2 v n o) m_29 := by
  refine NFok.ex (hbd h) rfl ?_
  obtain ⟨h0, h1, h2, h3⟩ := h
  show (((512 + (8 * ((((64 * n) + (8 * o)) / 64) % 8))) % 8) : Int) = 0
  omega
theorem n_30 (h : Is n o) : NFok (sg a0 a1 a2 v n o) m_30 := by
  refine NFok.ex (hbd h) rfl ?_
  obtain ⟨h0, h1, h2, h3⟩ := h
  show (((512 + (8 * (((64 * n) / 64) % 8))) % 8) : Int) = 0
  omega
theorem n_31 (h : Is n o) : NFok (sg a0 a1 a2 v n o) m_31 := by
  refine NFok.ex (hbd h) rfl ?_
  obtain ⟨h0, h1, h2, h3⟩ := h
  show (((576 + (8 * ((((64 * (if n % 2 = 0 then n + 1 else n - 1)) + (8 * o)) / 64) % 8))) % 8) : Int) = 0
  obtain ⟨x, hx, x0, x1⟩ := xo n
  simp only [hx]
  omega
theorem n_32 (h : Is n o) : NFok (sg a0 a1 a2 v n o) m_32 := by
  refine NFok.ex (hbd h) rfl ?_
  obtain ⟨h0, h1, h2, h3⟩ := h
  show (((576 + (8 * ((((64 * n) + (8 * o)) / 64) % 8))) % 8) : Int) = 0
  omega
theorem n_33 (h : Is n o) : NFok (sg a0 a1 a2 v n o) m_33 := by
  refine NFok.ex (hbd h) rfl ?_
  obtain ⟨h0, h1, h2, h3⟩ := h
  show (((576 + (8 * (((64 * (if n % 2 = 0 then n + 1 else n - 1)) / 64) % 8))) % 8) : Int) = 0
  obtain ⟨x, hx, x0, x1⟩ := xo n
  simp only [hx]
  omega
theorem n_34 (h : Is n o) : NFok (sg a0 a1 a2 v n o) m_34 := by
  refine NFok.ex (hbd h) rfl ?_
  obtain ⟨h0, h1, h2, h3⟩ := h
  show (((576 + (8 * (((64 * n) / 64) % 8))) % 8) : Int) = 0
  omega
theorem n_35 (h : Is n o) : NFok (sg a0 a1 a2 v n o) m_35 := by
  refine NFok.ex (hbd h) rfl ?_
  obtain ⟨h0, h1, h2, h3⟩ := h
  show (((576 + (8 * (n % 8))) % 8) : Int) = 0
  omega
theorem n_36 (h : Is n o) : NFok (sg a0 a1 a2 v n o) m_36 := by
  refine NFok.ex (hbd h) rfl ?_
  obtain ⟨h0, h1, h2, h3⟩ := h
  show (((640 + ((((64 * (if n % 2 = 0 then n + 1 else n - 1)) + (8 * o)) / 1) % (63 + 1))) % 8) : Int) = 0
  obtain ⟨x, hx, x0, x1⟩ := xo n
  simp only [hx]
  omega
theorem n_37 (h : Is n o) : NFok (sg a0 a1 a2 v n o) m_37 := by
  refine NFok.ex (hbd h) rfl ?_
  obtain ⟨h0, h1, h2, h3⟩ := h
  show (((640 + ((((64 * n) + (8 * o)) / 1) % (63 + 1))) % 8) : Int) = 0
  omega
theorem okC (h : Is n o) : Al (CFok (sg a0 a1 a2 v n o)) lC := (.cons (c_0 h) (.cons (c_1 h) (.cons (c_2 h) (.cons (c_3 h) (.cons (c_4 h) (.cons (c_5 h) (.cons (c_6 h) (.cons (c_7 h) (.cons (c_8 h) (.cons (c_9 h) (.cons (c_10 h) (.cons (c_11 h) (.cons (c_12 h) (.cons (c_13 h) (.cons (c_14 h) (.cons (c_15 h) (.cons (c_16 h) (.cons (c_17 h) (.cons (c_18 h) (.cons (c_19 h) (.cons (c_20 h) (.cons (c_21 h) (.cons (c_22 h) (.cons (c_23 h) (.cons (c_24 h) (.cons (c_25 h) (.cons (c_26 h) (.cons (c_27 h) (.cons (c_28 h) (.cons (c_29 h) (.cons (c_30 h) (.cons (c_31 h) (.cons (c_32 h) (.cons (c_33 h) (.cons (c_34 h) (.cons (c_35 h) (.cons (c_36 h) (.cons (c_37 h) (.cons (c_38 h) (.cons (c_39 h) (.cons (c_40 h) (.cons (c_41 h) (.cons (c_42 h) (.cons (c_43 h) (.cons (c_44 h) (.cons (c_45 h) (.cons (c_46 h) (.cons (c_47 h) (.cons (c_48 h) (.cons (c_49 h) (.cons (c_50 h) (.cons (c_51 h) .nil))))))))))))))))))))))))))))))))))))))))))))))))))))
theorem okN (h : Is n o) : Al (NFok (sg a0 a1 a2 v n o)) lN := (.cons (n_0 h) (.cons (n_1 h) (.cons (n_2 h) (.cons (n_3 h) (.cons (n_4 h) (.cons (n_5 h) (.cons (n_6 h) (.cons (n_7 h) (.cons (n_8 h) (.cons (n_9 h) (.cons (n_10 h) (.cons (n_11 h) (.cons (n_12 h) (.cons (n_13 h) (.cons (n_14 h) (.cons (n_15 h) (.cons (n_16 h) (.cons (n_17 h) (.cons (n_18 h) (.cons (n_19 h) (.cons (n_20 h) (.cons (n_21 h) (.cons (n_22 h) (.cons (n_23 h) (.cons (n_24 h) (.cons (n_25 h) (.cons (n_26 h) (.cons (n_27 h) (.cons (n_28 h) (.cons (n_29 h) (.cons (n_30 h) (.cons (n_31 h) (.cons (n_32 h) (.cons (n_33 h) (.cons (n_34 h) (.cons (n_35 h) (.cons (n_36 h) (.cons (n_37 h) .nil))))))))))))))))))))))))))))))))))))))
end
def k0_0 : CF := ⟨.eql, (.conv .i64 (.bin .quo .u64 (.conv .u64 (.bin .mul .i64 (.lit 64) (.var 10))) (.lit 64))), (.lit 0), true⟩
def m0_0 : NF := ⟨(.bin .rem .i64 (.conv .i64 (.bin .quo .u64 (.conv .u64 (.bin .add .i64 (.bin .mul .i64 (.lit 64) (.bin .xor .i64 (.var 10) (.lit 1))) (.bin .mul .i64 (.lit 8) (.var 11)))) (.lit 64))) (.lit 4)), 1⟩
def m0_1 : NF := ⟨(.bin .rem .i64 (.conv .i64 (.bin .quo .u64 (.conv .u64 (.bin .add .i64 (.bin .mul .i64 (.lit 64) (.var 10)) (.bin .mul .i64 (.lit 8) (.var 11)))) (.lit 64))) (.lit 4)), 0⟩
def m0_2 : NF := ⟨(.bin .rem .i64 (.var 10) (.lit 4)), 0⟩
def tC0 : List CF := k0_0 :: lC
def tN0 : List NF := m0_0 :: m0_1 :: m0_2 :: lN
section
variable {a0 a1 a2 v n o : Int}
theorem c0_0 (h : Is n o) (hc : n = 0) : CFok (sg a0 a1 a2 v n o) k0_0 := by
  refine CFok.ex (hbd h) rfl rfl ?_
  obtain ⟨h0, h1, h2, h3⟩ := h
  show ((((64 * n) / 64) : Int) == 0) = true
  refine beq_iff_eq.2 ?_
  omega
theorem n0_0 (h : Is n o) (hc : n = 0) : NFok (sg a0 a1 a2 v n o) m0_0 := by
  refine NFok.ex (hbd h) rfl ?_
  obtain ⟨h0, h1, h2, h3⟩ := h
  show (((((64 * (if n % 2 = 0 then n + 1 else n - 1)) + (8 * o)) / 64) % 4) : Int) = 1
  obtain ⟨x, hx, x0, x1⟩ := xo n
  simp only [hx]
  omega
theorem n0_1 (h : Is n o) (hc : n = 0) : NFok (sg a0 a1 a2 v n o) m0_1 := by
  refine NFok.ex (hbd h) rfl ?_
  obtain ⟨h0, h1, h2, h3⟩ := h
  show (((((64 * n) + (8 * o)) / 64) % 4) : Int) = 0
  omega
theorem n0_2 (h : Is n o) (hc : n = 0) : NFok (sg a0 a1 a2 v n o) m0_2 := by
  refine NFok.ex (hbd h) rfl ?_
  obtain ⟨h0, h1, h2, h3⟩ := h
  show ((n % 4) : Int) = 0
  omega
theorem okC0 (h : Is n o) (hc : n = 0) : Al (CFok (sg a0 a1 a2 v n o)) tC0 := (.cons (c0_0 h hc) (okC h))
theorem okN0 (h : Is n o) (hc : n = 0) : Al (NFok (sg a0 a1 a2 v n o)) tN0 := (.cons (n0_0 h hc) (.cons (n0_1 h hc) (.cons (n0_2 h hc) (okN h))))
end
def k4_0 : CF := ⟨.eql, (.conv .i64 (.bin .quo .u64 (.conv .u64 (.bin .mul .i64 (.lit 64) (.var 10))) (.lit 64))), (.lit 0), false⟩
def m4_0 : NF := ⟨(.bin .rem .i64 (.conv .i64 (.bin .quo .u64 (.conv .u64 (.bin .add .i64 (.bin .mul .i64 (.lit 64) (.bin .xor .i64 (.var 10) (.lit 1))) (.bin .mul .i64 (.lit 8) (.var 11)))) (.lit 64))) (.lit 4)), 1⟩
def m4_1 : NF := ⟨(.bin .rem .i64 (.conv .i64 (.bin .quo .u64 (.conv .u64 (.bin .add .i64 (.bin .mul .i64 (.lit 64) (.var 10)) (.bin .mul .i64 (.lit 8) (.var 11)))) (.lit 64))) (.lit 4)), 0⟩
def m4_2 : NF := ⟨(.bin .rem .i64 (.var 10) (.lit 4)), 0⟩
def tC4 : List CF := k4_0 :: lC
def tN4 : List NF := m4_0 :: m4_1 :: m4_2 :: lN
section
variable {a0 a1 a2 v n o : Int}
theorem c4_0 (h : Is n o) (hc : n % 4 = 0 ∧ 0 < n) : CFok (sg a0 a1 a2 v n o) k4_0 := by
  refine CFok.ex (hbd h) rfl rfl ?_
  obtain ⟨h0, h1, h2, h3⟩ := h
  show ((((64 * n) / 64) : Int) == 0) = false
  refine beq_eq_false_iff_ne.2 ?_
  omega
theorem n4_0 (h : Is n o) (hc : n % 4 = 0 ∧ 0 < n) : NFok (sg a0 a1 a2 v n o) m4_0 := by
  refine NFok.ex (hbd h) rfl ?_
  obtain ⟨h0, h1, h2, h3⟩ := h
  show (((((64 * (if n % 2 = 0 then n + 1 else n - 1)) + (8 * o)) / 64) % 4) : Int) = 1
  obtain ⟨x, hx, x0, x1⟩ := xo n
  simp only [hx]
  omega
theorem n4_1 (h : Is n o) (hc : n % 4 = 0 ∧ 0 < n) : NFok (sg a0 a1 a2 v n o) m4_1 := by
  refine NFok.ex (hbd h) rfl ?_
  obtain ⟨h0, h1, h2, h3⟩ := h
  show (((((64 * n) + (8 * o)) / 64) % 4) : Int) = 0
  omega
theorem n4_2 (h : Is n o) (hc : n % 4 = 0 ∧ 0 < n) : NFok (sg a0 a1 a2 v n o) m4_2 := by
  refine NFok.ex (hbd h) rfl ?_
  obtain ⟨h0, h1, h2, h3⟩ := h
  show ((n % 4) : Int) = 0
  omega
theorem okC4 (h : Is n o) (hc : n % 4 = 0 ∧ 0 < n) : Al (CFok (sg a0 a1 a2 v n o)) tC4 := (.cons (c4_0 h hc) (okC h))
theorem okN4 (h : Is n o) (hc : n % 4 = 0 ∧ 0 < n) : Al (NFok (sg a0 a1 a2 v n o)) tN4 := (.cons (n4_0 h hc) (.cons (n4_1 h hc) (.cons (n4_2 h hc) (okN h))))
end
def k1_0 : CF := ⟨.eql, (.conv .i64 (.bin .quo .u64 (.conv .u64 (.bin .mul .i64 (.lit 64) (.var 10))) (.lit 64))), (.lit 0), false⟩
def m1_0 : NF := ⟨(.bin .rem .i64 (.conv .i64 (.bin .quo .u64 (.conv .u64 (.bin .add .i64 (.bin .mul .i64 (.lit 64) (.bin .xor .i64 (.var 10) (.lit 1))) (.bin .mul .i64 (.lit 8) (.var 11)))) (.lit 64))) (.lit 4)), 0⟩
def m1_1 : NF := ⟨(.bin .rem .i64 (.conv .i64 (.bin .quo .u64 (.conv .u64 (.bin .add .i64 (.bin .mul .i64 (.lit 64) (.var 10)) (.bin .mul .i64 (.lit 8) (.var 11)))) (.lit 64))) (.lit 4)), 1⟩
def m1_2 : NF := ⟨(.bin .rem .i64 (.var 10) (.lit 4)), 1⟩
def tC1 : List CF := k1_0 :: lC
def tN1 : List NF := m1_0 :: m1_1 :: m1_2 :: lN
section
variable {a0 a1 a2 v n o : Int}
theorem c1_0 (h : Is n o) (hc : n % 4 = 1) : CFok (sg a0 a1 a2 v n o) k1_0 := by
  refine CFok.ex (hbd h) rfl rfl ?_
  obtain ⟨h0, h1, h2, h3⟩ := h
  show ((((64 * n) / 64) : Int) == 0) = false
  refine beq_eq_false_iff_ne.2 ?_
  omega
theorem n1_0 (h : Is n o) (hc : n % 4 = 1) : NFok (sg a0 a1 a2 v n o) m1_0 := by
  refine NFok.ex (hbd h) rfl ?_
  obtain ⟨h0, h1, h2, h3⟩ := h
  show (((((64 * (if n % 2 = 0 then n + 1 else n - 1)) + (8 * o)) / 64) % 4) : Int) = 0
  obtain ⟨x, hx, x0, x1⟩ := xo n
  simp only [hx]
  omega
theorem n1_1 (h : Is n o) (hc : n % 4 = 1) : NFok (sg a0 a1 a2 v n o) m1_1 := by
  refine NFok.ex (hbd h) rfl ?_
  obtain ⟨h0, h1, h2, h3⟩ := h
  show (((((64 * n) + (8 * o)) / 64) % 4) : Int) = 1
  omega
theorem n1_2 (h : Is n o) (hc : n % 4 = 1) : NFok (sg a0 a1 a2 v n o) m1_2 := by
  refine NFok.ex (hbd h) rfl ?_
  obtain ⟨h0, h1, h2, h3⟩ := h
  show ((n % 4) : Int) = 1
  omega
theorem okC1 (h : Is n o) (hc : n % 4 = 1) : Al (CFok (sg a0 a1 a2 v n o)) tC1 := (.cons (c1_0 h hc) (okC h))
theorem okN1 (h : Is n o) (hc : n % 4 = 1) : Al (NFok (sg a0 a1 a2 v n o)) tN1 := (.cons (n1_0 h hc) (.cons (n1_1 h hc) (.cons (n1_2 h hc) (okN h))))
end
def k2_0 : CF := ⟨.eql, (.conv .i64 (.bin .quo .u64 (.conv .u64 (.bin .mul .i64 (.lit 64) (.var 10))) (.lit 64))), (.lit 0), false⟩
def m2_0 : NF := ⟨(.bin .rem .i64 (.conv .i64 (.bin .quo .u64 (.conv .u64 (.bin .add .i64 (.bin .mul .i64 (.lit 64) (.bin .xor .i64 (.var 10) (.lit 1))) (.bin .mul .i64 (.lit 8) (.var 11)))) (.lit 64))) (.lit 4)), 3⟩
def m2_1 : NF := ⟨(.bin .rem .i64 (.conv .i64 (.bin .quo .u64 (.conv .u64 (.bin .add .i64 (.bin .mul .i64 (.lit 64) (.var 10)) (.bin .mul .i64 (.lit 8) (.var 11)))) (.lit 64))) (.lit 4)), 2⟩
def m2_2 : NF := ⟨(.bin .rem .i64 (.var 10) (.lit 4)), 2⟩
def tC2 : List CF := k2_0 :: lC
def tN2 : List NF := m2_0 :: m2_1 :: m2_2 :: lN
section
variable {a0 a1 a2 v n o : Int}
theorem c2_0 (h : Is n o) (hc : n % 4 = 2) : CFok (sg a0 a1 a2 v n o) k2_0 := by
  refine CFok.ex (hbd h) rfl rfl ?_
  obtain ⟨h0, h1, h2, h3⟩ := h
  show ((((64 * n) / 64) : Int) == 0) = false
  refine beq_eq_false_iff_ne.2 ?_
  omega
theorem n2_0 (h : Is n o) (hc : n % 4 = 2) : NFok (sg a0 a1 a2 v n o) m2_0 := by
  refine NFok.ex (hbd h) rfl ?_
  obtain ⟨h0, h1, h2, h3⟩ := h
  show (((((64 * (if n % 2 = 0 then n + 1 else n - 1)) + (8 * o)) / 64) % 4) : Int) = 3
  obtain ⟨x, hx, x0, x1⟩ := xo n
  simp only [hx]
  omega
theorem n2_1 (h : Is n o) (hc : n % 4 = 2) : NFok (sg a0 a1 a2 v n o) m2_1 := by
  refine NFok.ex (hbd h) rfl ?_
  obtain ⟨h0, h1, h2, h3⟩ := h
  show (((((64 * n) + (8 * o)) / 64) % 4) : Int) = 2
  omega
theorem n2_2 (h : Is n o) (hc : n % 4 = 2) : NFok (sg a0 a1 a2 v n o) m2_2 := by
  refine NFok.ex (hbd h) rfl ?_
  obtain ⟨h0, h1, h2, h3⟩ := h
  show ((n % 4) : Int) = 2
  omega
theorem okC2 (h : Is n o) (hc : n % 4 = 2) : Al (CFok (sg a0 a1 a2 v n o)) tC2 := (.cons (c2_0 h hc) (okC h))
theorem okN2 (h : Is n o) (hc : n % 4 = 2) : Al (NFok (sg a0 a1 a2 v n o)) tN2 := (.cons (n2_0 h hc) (.cons (n2_1 h hc) (.cons (n2_2 h hc) (okN h))))
end
def k3_0 : CF := ⟨.eql, (.conv .i64 (.bin .quo .u64 (.conv .u64 (.bin .mul .i64 (.lit 64) (.var 10))) (.lit 64))), (.lit 0), false⟩
def m3_0 : NF := ⟨(.bin .rem .i64 (.conv .i64 (.bin .quo .u64 (.conv .u64 (.bin .add .i64 (.bin .mul .i64 (.lit 64) (.bin .xor .i64 (.var 10) (.lit 1))) (.bin .mul .i64 (.lit 8) (.var 11)))) (.lit 64))) (.lit 4)), 2⟩
def m3_1 : NF := ⟨(.bin .rem .i64 (.conv .i64 (.bin .quo .u64 (.conv .u64 (.bin .add .i64 (.bin .mul .i64 (.lit 64) (.var 10)) (.bin .mul .i64 (.lit 8) (.var 11)))) (.lit 64))) (.lit 4)), 3⟩
def m3_2 : NF := ⟨(.bin .rem .i64 (.var 10) (.lit 4)), 3⟩
def tC3 : List CF := k3_0 :: lC
def tN3 : List NF := m3_0 :: m3_1 :: m3_2 :: lN
section
variable {a0 a1 a2 v n o : Int}
theorem c3_0 (h : Is n o) (hc : n % 4 = 3) : CFok (sg a0 a1 a2 v n o) k3_0 := by
  refine CFok.ex (hbd h) rfl rfl ?_
  obtain ⟨h0, h1, h2, h3⟩ := h
  show ((((64 * n) / 64) : Int) == 0) = false
  refine beq_eq_false_iff_ne.2 ?_
  omega
theorem n3_0 (h : Is n o) (hc : n % 4 = 3) : NFok (sg a0 a1 a2 v n o) m3_0 := by
  refine NFok.ex (hbd h) rfl ?_
  obtain ⟨h0, h1, h2, h3⟩ := h
  show (((((64 * (if n % 2 = 0 then n + 1 else n - 1)) + (8 * o)) / 64) % 4) : Int) = 2
  obtain ⟨x, hx, x0, x1⟩ := xo n
  simp only [hx]
  omega
theorem n3_1 (h : Is n o) (hc : n % 4 = 3) : NFok (sg a0 a1 a2 v n o) m3_1 := by
  refine NFok.ex (hbd h) rfl ?_
  obtain ⟨h0, h1, h2, h3⟩ := h
  show (((((64 * n) + (8 * o)) / 64) % 4) : Int) = 3
  omega
theorem n3_2 (h : Is n o) (hc : n % 4 = 3) : NFok (sg a0 a1 a2 v n o) m3_2 := by
  refine NFok.ex (hbd h) rfl ?_
  obtain ⟨h0, h1, h2, h3⟩ := h
  show ((n % 4) : Int) = 3
  omega
theorem okC3 (h : Is n o) (hc : n % 4 = 3) : Al (CFok (sg a0 a1 a2 v n o)) tC3 := (.cons (c3_0 h hc) (okC h))
theorem okN3 (h : Is n o) (hc : n % 4 = 3) : Al (NFok (sg a0 a1 a2 v n o)) tN3 := (.cons (n3_0 h hc) (.cons (n3_1 h hc) (.cons (n3_2 h hc) (okN h))))
end
noncomputable def lst (m : Nat) : List SumE := ⟨15, [], .one (.bool true)⟩ :: ⟨7, [.one (.sym .i64 (.var 0)), .one (.int .i64 ((512 : Nat) : Int))], .one (.sym .i64 (.var 10))⟩ :: ⟨7, [.one (.sym .i64 (.var 1)), .one (.int .i64 ((8 : Nat) : Int))], .one (.sym .i64 (.var 11))⟩ :: ⟨7, [.one (.sym .i64 (.var 2)), .one (.int .i64 ((3 : Nat) : Int))], .one (.int .i64 (Int.ofNat m))⟩ :: pus
noncomputable def run (t : List CF) (n : List NF) (m : Nat) (b : Bool) : Bool := says true (eval (cfgM t n (lst m)) 300 X0 (.call 3 [.one (.sym .i64 (.var 0)), .one (.sym .i64 (.var 1)), .one (.sym .i64 (.var 2)), .one (.sym .u64 (.var 3)), .one (.bool b)]) ⟨.nil, 0⟩)
theorem okLow0 : isLow 0 ((512 : Nat) : Int) (eval cfg0 100 X0 (.call 7 [.one (.sym .i64 (.var 0)), .one (.int .i64 ((512 : Nat) : Int))]) ⟨.nil, 0⟩) = true := by decide +kernel
theorem okLow1 : isLow 1 ((8 : Nat) : Int) (eval cfg0 100 X0 (.call 7 [.one (.sym .i64 (.var 1)), .one (.int .i64 ((8 : Nat) : Int))]) ⟨.nil, 0⟩) = true := by decide +kernel
theorem okLow2 : isLow 2 ((3 : Nat) : Int) (eval cfg0 100 X0 (.call 7 [.one (.sym .i64 (.var 2)), .one (.int .i64 ((3 : Nat) : Int))]) ⟨.nil, 0⟩) = true := by decide +kernel
end TopA
