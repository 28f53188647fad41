/- KernelRetry: evaluations, part 3. No conditions beside those in its theorems. -/
import Derived.Test.YtnjinlodmjoibaaGreatKernelRetryE
set_option linter.unusedVariables false
open Go Eng Go.Proofs Go.RowKit
namespace kernelRetryW
open Base
theorem r4_0 : run (.int .i64 4) [] 0 = true := by decide +kernel
theorem r4_1 : run (.int .i64 4) [] 1 = true := by decide +kernel
theorem r4_2 : run (.int .i64 4) [] 2 = true := by decide +kernel
theorem r4_3 : run (.int .i64 4) [] 3 = true := by decide +kernel
theorem r4_4 : run (.int .i64 4) [] 4 = true := by decide +kernel
theorem r4_5 : run (.int .i64 4) [] 5 = true := by decide +kernel
theorem r4_6 : run (.int .i64 4) [] 6 = true := by decide +kernel
theorem r4_7 : run (.int .i64 4) [] 7 = true := by decide +kernel
end kernelRetryW
