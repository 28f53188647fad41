/- TopServed: its evaluations, SRff. No conditions beside those in its theorems. -/
import Derived.Test.YtkcnnmpiochaaaaGreatKSD
set_option linter.unusedVariables false
open Go Eng Go.Proofs Go.RowKit
namespace TopS
open Base
theorem fz_1f : run (xCnz lC) (xNnz lN) 1 false = true := by decide +kernel
theorem f0_1f : run (xCn0 lC) (xNn0 lN) 1 false = true := by decide +kernel
theorem f1_1f : run (xCn1 lC) (xNn1 lN) 1 false = true := by decide +kernel
theorem f2_1f : run (xCn2 lC) (xNn2 lN) 1 false = true := by decide +kernel
theorem f3_1f : run (xCn3 lC) (xNn3 lN) 1 false = true := by decide +kernel
end TopS
