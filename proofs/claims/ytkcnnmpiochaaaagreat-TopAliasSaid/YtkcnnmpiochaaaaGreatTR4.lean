/- TopAlias: its evaluations, part 5. No conditions beside those in its theorems. -/
import Derived.Test.YtkcnnmpiochaaaaGreatTF
set_option linter.unusedVariables false
open Go Eng Go.Proofs Go.RowKit
namespace TopA
open Base
theorem r4_0_t : run tC4 tN4 0 true = true := by decide +kernel
theorem r4_0_f : run tC4 tN4 0 false = true := by decide +kernel
theorem r4_1_t : run tC4 tN4 1 true = true := by decide +kernel
theorem r4_1_f : run tC4 tN4 1 false = true := by decide +kernel
theorem r4_2_t : run tC4 tN4 2 true = true := by decide +kernel
theorem r4_2_f : run tC4 tN4 2 false = true := by decide +kernel
theorem any4 : ∀ m : Nat, m < 3 → ∀ b : Bool, run tC4 tN4 m b = true
  | 0, _, true => r4_0_t
  | 0, _, false => r4_0_f
  | 1, _, true => r4_1_t
  | 1, _, false => r4_1_f
  | 2, _, true => r4_2_t
  | 2, _, false => r4_2_f
  | m + 3, h, _ => absurd h (by omega)
end TopA
