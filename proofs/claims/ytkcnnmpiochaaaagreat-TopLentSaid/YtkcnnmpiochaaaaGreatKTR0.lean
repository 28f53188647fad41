/- TopLent: its evaluations: the first page of class 0. No conditions beside those in its theorems. -/
import Derived.Test.YtkcnnmpiochaaaaGreatKTD
set_option linter.unusedVariables false
open Go Eng Go.Proofs Go.RowKit
namespace TopL
open Base
theorem r0_z : run (xCn0 (xCmz lC)) (xNn0 (xNmz lN)) = true := by decide +kernel
theorem r0_0 : run (xCn0 (xCm0 lC)) (xNn0 (xNm0 lN)) = true := by decide +kernel
theorem r0_1 : run (xCn0 (xCm1 lC)) (xNn0 (xNm1 lN)) = true := by decide +kernel
theorem r0_2 : run (xCn0 (xCm2 lC)) (xNn0 (xNm2 lN)) = true := by decide +kernel
theorem r0_3 : run (xCn0 (xCm3 lC)) (xNn0 (xNm3 lN)) = true := by decide +kernel
end TopL
