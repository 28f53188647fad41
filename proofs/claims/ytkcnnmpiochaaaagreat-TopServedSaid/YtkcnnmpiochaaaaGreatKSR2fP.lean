/- TopServed: its evaluations, SR2fP. No conditions beside those in its theorems. -/
import Derived.Test.YtkcnnmpiochaaaaGreatKSD
set_option linter.unusedVariables false
open Go Eng Go.Proofs Go.RowKit
namespace TopS
open Base
theorem rz_2fP : runT (xCvP (xCnz lC)) (xNvP (xNnz lN)) 2 false = true := by decide +kernel
theorem r0_2fP : runT (xCvP (xCn0 lC)) (xNvP (xNn0 lN)) 2 false = true := by decide +kernel
theorem r1_2fP : runT (xCvP (xCn1 lC)) (xNvP (xNn1 lN)) 2 false = true := by decide +kernel
theorem r2_2fP : runT (xCvP (xCn2 lC)) (xNvP (xNn2 lN)) 2 false = true := by decide +kernel
theorem r3_2fP : runT (xCvP (xCn3 lC)) (xNvP (xNn3 lN)) 2 false = true := by decide +kernel
end TopS
