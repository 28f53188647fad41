/- TopServed: its evaluations, SR1tP. No conditions beside those in its theorems. -/
import Derived.Test.YtkcnnmpiochaaaaGreatKSD
set_option linter.unusedVariables false
open Go Eng Go.Proofs Go.RowKit
namespace TopS
open Base
theorem rz_1tP : runT (xCvP (xCnz lC)) (xNvP (xNnz lN)) 1 true = true := by decide +kernel
theorem r0_1tP : runT (xCvP (xCn0 lC)) (xNvP (xNn0 lN)) 1 true = true := by decide +kernel
theorem r1_1tP : runT (xCvP (xCn1 lC)) (xNvP (xNn1 lN)) 1 true = true := by decide +kernel
theorem r2_1tP : runT (xCvP (xCn2 lC)) (xNvP (xNn2 lN)) 1 true = true := by decide +kernel
theorem r3_1tP : runT (xCvP (xCn3 lC)) (xNvP (xNn3 lN)) 1 true = true := by decide +kernel
end TopS
