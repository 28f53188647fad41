/- KernelRetry: evaluations, part 1. No conditions beside those in its theorems. -/
import Derived.Test.YtnjinlodmjoibaaGreatKernelRetryE
set_option linter.unusedVariables false
open Go Eng Go.Proofs Go.RowKit
namespace kernelRetryW
open Base
theorem r2_0 : run (.int .i64 2) [] 0 = true := by decide +kernel
theorem r2_1 : run (.int .i64 2) [] 1 = true := by decide +kernel
theorem r2_2 : run (.int .i64 2) [] 2 = true := by decide +kernel
theorem r2_3 : run (.int .i64 2) [] 3 = true := by decide +kernel
theorem r2_4 : run (.int .i64 2) [] 4 = true := by decide +kernel
theorem r2_5 : run (.int .i64 2) [] 5 = true := by decide +kernel
theorem r2_6 : run (.int .i64 2) [] 6 = true := by decide +kernel
theorem r2_7 : run (.int .i64 2) [] 7 = true := by decide +kernel
end kernelRetryW
