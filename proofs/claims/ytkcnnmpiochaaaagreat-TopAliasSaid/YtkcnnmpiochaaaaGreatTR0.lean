/- TopAlias: its evaluations, part 1. No conditions beside those in its theorems. -/
import Derived.Test.YtkcnnmpiochaaaaGreatTF
set_option linter.unusedVariables false
open Go Eng Go.Proofs Go.RowKit
namespace TopA
open Base
theorem r0_0_t : run tC0 tN0 0 true = true := by decide +kernel
theorem r0_0_f : run tC0 tN0 0 false = true := by decide +kernel
theorem r0_1_t : run tC0 tN0 1 true = true := by decide +kernel
theorem r0_1_f : run tC0 tN0 1 false = true := by decide +kernel
theorem r0_2_t : run tC0 tN0 2 true = true := by decide +kernel
theorem r0_2_f : run tC0 tN0 2 false = true := by decide +kernel
theorem any0 : ∀ m : Nat, m < 3 → ∀ b : Bool, run tC0 tN0 m b = true
  | 0, _, true => r0_0_t
  | 0, _, false => r0_0_f
  | 1, _, true => r0_1_t
  | 1, _, false => r0_1_f
  | 2, _, true => r0_2_t
  | 2, _, false => r0_2_f
  | m + 3, h, _ => absurd h (by omega)
end TopA
