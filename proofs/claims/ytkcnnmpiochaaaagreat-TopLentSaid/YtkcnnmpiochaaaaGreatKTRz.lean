/- TopLent: its evaluations: the first page of class z. No conditions beside those in its theorems. -/
import Derived.Test.YtkcnnmpiochaaaaGreatKTD
set_option linter.unusedVariables false
open Go Eng Go.Proofs Go.RowKit
namespace TopL
open Base
theorem rz_z : run (xCnz (xCmz lC)) (xNnz (xNmz lN)) = true := by decide +kernel
theorem rz_0 : run (xCnz (xCm0 lC)) (xNnz (xNm0 lN)) = true := by decide +kernel
theorem rz_1 : run (xCnz (xCm1 lC)) (xNnz (xNm1 lN)) = true := by decide +kernel
theorem rz_2 : run (xCnz (xCm2 lC)) (xNnz (xNm2 lN)) = true := by decide +kernel
theorem rz_3 : run (xCnz (xCm3 lC)) (xNnz (xNm3 lN)) = true := by decide +kernel
end TopL
