/- TopLent: its evaluations: the first page of class 2. No conditions beside those in its theorems. -/
import Derived.Test.YtkcnnmpiochaaaaGreatKTD
set_option linter.unusedVariables false
open Go Eng Go.Proofs Go.RowKit
namespace TopL
open Base
theorem r2_z : run (xCn2 (xCmz lC)) (xNn2 (xNmz lN)) = true := by decide +kernel
theorem r2_0 : run (xCn2 (xCm0 lC)) (xNn2 (xNm0 lN)) = true := by decide +kernel
theorem r2_1 : run (xCn2 (xCm1 lC)) (xNn2 (xNm1 lN)) = true := by decide +kernel
theorem r2_2 : run (xCn2 (xCm2 lC)) (xNn2 (xNm2 lN)) = true := by decide +kernel
theorem r2_3 : run (xCn2 (xCm3 lC)) (xNn2 (xNm3 lN)) = true := by decide +kernel
end TopL
