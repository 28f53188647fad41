/- TopAlias: its evaluations, part 2. No conditions beside those in its theorems. -/
import Derived.Test.YtkcnnmpiochaaaaGreatTF
set_option linter.unusedVariables false
open Go Eng Go.Proofs Go.RowKit
namespace TopA
open Base
theorem r1_0_t : run tC1 tN1 0 true = true := by decide +kernel
theorem r1_0_f : run tC1 tN1 0 false = true := by decide +kernel
theorem r1_1_t : run tC1 tN1 1 true = true := by decide +kernel
theorem r1_1_f : run tC1 tN1 1 false = true := by decide +kernel
theorem r1_2_t : run tC1 tN1 2 true = true := by decide +kernel
theorem r1_2_f : run tC1 tN1 2 false = true := by decide +kernel
theorem any1 : ∀ m : Nat, m < 3 → ∀ b : Bool, run tC1 tN1 m b = true
  | 0, _, true => r1_0_t
  | 0, _, false => r1_0_f
  | 1, _, true => r1_1_t
  | 1, _, false => r1_1_f
  | 2, _, true => r1_2_t
  | 2, _, false => r1_2_f
  | m + 3, h, _ => absurd h (by omega)
end TopA
