/- TopLent: its evaluations: the first page of class 1. No conditions beside those in its theorems. -/
import Derived.Test.YtkcnnmpiochaaaaGreatKTD
set_option linter.unusedVariables false
open Go Eng Go.Proofs Go.RowKit
namespace TopL
open Base
theorem r1_z : run (xCn1 (xCmz lC)) (xNn1 (xNmz lN)) = true := by decide +kernel
theorem r1_0 : run (xCn1 (xCm0 lC)) (xNn1 (xNm0 lN)) = true := by decide +kernel
theorem r1_1 : run (xCn1 (xCm1 lC)) (xNn1 (xNm1 lN)) = true := by decide +kernel
theorem r1_2 : run (xCn1 (xCm2 lC)) (xNn1 (xNm2 lN)) = true := by decide +kernel
theorem r1_3 : run (xCn1 (xCm3 lC)) (xNn1 (xNm3 lN)) = true := by decide +kernel
end TopL
