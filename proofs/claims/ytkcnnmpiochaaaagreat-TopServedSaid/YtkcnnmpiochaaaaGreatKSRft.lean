/- TopServed: its evaluations, SRft. No conditions beside those in its theorems. -/
import Derived.Test.YtkcnnmpiochaaaaGreatKSD
set_option linter.unusedVariables false
open Go Eng Go.Proofs Go.RowKit
namespace TopS
open Base
theorem fz_0t : run (xCnz lC) (xNnz lN) 0 true = true := by decide +kernel
theorem f0_0t : run (xCn0 lC) (xNn0 lN) 0 true = true := by decide +kernel
theorem f1_0t : run (xCn1 lC) (xNn1 lN) 0 true = true := by decide +kernel
theorem f2_0t : run (xCn2 lC) (xNn2 lN) 0 true = true := by decide +kernel
theorem f3_0t : run (xCn3 lC) (xNn3 lN) 0 true = true := by decide +kernel
end TopS
