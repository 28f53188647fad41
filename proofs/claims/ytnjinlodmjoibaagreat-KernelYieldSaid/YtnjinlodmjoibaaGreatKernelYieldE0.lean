/- KernelYield: evaluations, part 1. No conditions beside those in its theorems. -/
import Derived.Test.YtnjinlodmjoibaaGreatKernelYieldE
set_option linter.unusedVariables false
open Go Eng Go.Proofs Go.RowKit
namespace kernelYieldW
open Base
theorem e_0 : (List.range' 0 8).all (fun m => run m) = true := by decide +kernel
end kernelYieldW
