/- TopAlias: its evaluations, part 3. No conditions beside those in its theorems. -/
import Derived.Test.YtkcnnmpiochaaaaGreatTF
set_option linter.unusedVariables false
open Go Eng Go.Proofs Go.RowKit
namespace TopA
open Base
theorem r2_0_t : run tC2 tN2 0 true = true := by decide +kernel
theorem r2_0_f : run tC2 tN2 0 false = true := by decide +kernel
theorem r2_1_t : run tC2 tN2 1 true = true := by decide +kernel
theorem r2_1_f : run tC2 tN2 1 false = true := by decide +kernel
theorem r2_2_t : run tC2 tN2 2 true = true := by decide +kernel
theorem r2_2_f : run tC2 tN2 2 false = true := by decide +kernel
theorem any2 : ∀ m : Nat, m < 3 → ∀ b : Bool, run tC2 tN2 m b = true
  | 0, _, true => r2_0_t
  | 0, _, false => r2_0_f
  | 1, _, true => r2_1_t
  | 1, _, false => r2_1_f
  | 2, _, true => r2_2_t
  | 2, _, false => r2_2_f
  | m + 3, h, _ => absurd h (by omega)
end TopA
