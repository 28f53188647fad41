/- KernelRetry: evaluations, part 4. No conditions beside those in its theorems. -/
import Derived.Test.YtnjinlodmjoibaaGreatKernelRetryE
set_option linter.unusedVariables false
open Go Eng Go.Proofs Go.RowKit
namespace kernelRetryW
open Base
theorem rE_0 : run (.sym .i64 (.var 0)) tE 0 = true := by decide +kernel
theorem rE_1 : run (.sym .i64 (.var 0)) tE 1 = true := by decide +kernel
theorem rE_2 : run (.sym .i64 (.var 0)) tE 2 = true := by decide +kernel
theorem rE_3 : run (.sym .i64 (.var 0)) tE 3 = true := by decide +kernel
theorem rE_4 : run (.sym .i64 (.var 0)) tE 4 = true := by decide +kernel
theorem rE_5 : run (.sym .i64 (.var 0)) tE 5 = true := by decide +kernel
theorem rE_6 : run (.sym .i64 (.var 0)) tE 6 = true := by decide +kernel
theorem rE_7 : run (.sym .i64 (.var 0)) tE 7 = true := by decide +kernel
end kernelRetryW
