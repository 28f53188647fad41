/- TopServed: its evaluations, SR2fZ. No conditions beside those in its theorems. -/
import Derived.Test.YtkcnnmpiochaaaaGreatKSD
set_option linter.unusedVariables false
open Go Eng Go.Proofs Go.RowKit
namespace TopS
open Base
theorem rz_2fZ : runT (xCvZ (xCnz lC)) (xNvZ (xNnz lN)) 2 false = true := by decide +kernel
theorem r0_2fZ : runT (xCvZ (xCn0 lC)) (xNvZ (xNn0 lN)) 2 false = true := by decide +kernel
theorem r1_2fZ : runT (xCvZ (xCn1 lC)) (xNvZ (xNn1 lN)) 2 false = true := by decide +kernel
theorem r2_2fZ : runT (xCvZ (xCn2 lC)) (xNvZ (xNn2 lN)) 2 false = true := by decide +kernel
theorem r3_2fZ : runT (xCvZ (xCn3 lC)) (xNvZ (xNn3 lN)) 2 false = true := by decide +kernel
end TopS
