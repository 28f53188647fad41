/- TopAlias: its evaluations, part 4. No conditions beside those in its theorems. -/
import Derived.Test.YtkcnnmpiochaaaaGreatTF
set_option linter.unusedVariables false
open Go Eng Go.Proofs Go.RowKit
namespace TopA
open Base
theorem r3_0_t : run tC3 tN3 0 true = true := by decide +kernel
theorem r3_0_f : run tC3 tN3 0 false = true := by decide +kernel
theorem r3_1_t : run tC3 tN3 1 true = true := by decide +kernel
theorem r3_1_f : run tC3 tN3 1 false = true := by decide +kernel
theorem r3_2_t : run tC3 tN3 2 true = true := by decide +kernel
theorem r3_2_f : run tC3 tN3 2 false = true := by decide +kernel
theorem any3 : ∀ m : Nat, m < 3 → ∀ b : Bool, run tC3 tN3 m b = true
  | 0, _, true => r3_0_t
  | 0, _, false => r3_0_f
  | 1, _, true => r3_1_t
  | 1, _, false => r3_1_f
  | 2, _, true => r3_2_t
  | 2, _, false => r3_2_f
  | m + 3, h, _ => absurd h (by omega)
end TopA
