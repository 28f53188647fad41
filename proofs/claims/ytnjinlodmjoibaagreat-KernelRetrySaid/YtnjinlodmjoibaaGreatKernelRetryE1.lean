/- KernelRetry: evaluations, part 2. No conditions beside those in its theorems. -/
import Derived.Test.YtnjinlodmjoibaaGreatKernelRetryE
set_option linter.unusedVariables false
open Go Eng Go.Proofs Go.RowKit
namespace kernelRetryW
open Base
theorem r3_0 : run (.int .i64 3) [] 0 = true := by decide +kernel
theorem r3_1 : run (.int .i64 3) [] 1 = true := by decide +kernel
theorem r3_2 : run (.int .i64 3) [] 2 = true := by decide +kernel
theorem r3_3 : run (.int .i64 3) [] 3 = true := by decide +kernel
theorem r3_4 : run (.int .i64 3) [] 4 = true := by decide +kernel
theorem r3_5 : run (.int .i64 3) [] 5 = true := by decide +kernel
theorem r3_6 : run (.int .i64 3) [] 6 = true := by decide +kernel
theorem r3_7 : run (.int .i64 3) [] 7 = true := by decide +kernel
end kernelRetryW
