/- TopLent: its evaluations: the first page of class 3. No conditions beside those in its theorems. -/
import Derived.Test.YtkcnnmpiochaaaaGreatKTD
set_option linter.unusedVariables false
open Go Eng Go.Proofs Go.RowKit
namespace TopL
open Base
theorem r3_z : run (xCn3 (xCmz lC)) (xNn3 (xNmz lN)) = true := by decide +kernel
theorem r3_0 : run (xCn3 (xCm0 lC)) (xNn3 (xNm0 lN)) = true := by decide +kernel
theorem r3_1 : run (xCn3 (xCm1 lC)) (xNn3 (xNm1 lN)) = true := by decide +kernel
theorem r3_2 : run (xCn3 (xCm2 lC)) (xNn3 (xNm2 lN)) = true := by decide +kernel
theorem r3_3 : run (xCn3 (xCm3 lC)) (xNn3 (xNm3 lN)) = true := by decide +kernel
end TopL
