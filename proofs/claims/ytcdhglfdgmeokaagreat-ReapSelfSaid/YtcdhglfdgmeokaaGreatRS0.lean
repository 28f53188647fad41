/- ReapSelf: evaluations, part 1. No conditions beside those in its theorems. -/
import Derived.Test.YtcdhglfdgmeokaaGreatRS
set_option linter.unusedVariables false
open Go Eng Go.Proofs Go.RowKit
namespace reapSelfW
open Base
theorem r0_0 : run 2 0 0 = true := by decide +kernel
theorem r1_1 : run 4 1 1 = true := by decide +kernel
theorem r2_0 : run 8 2 0 = true := by decide +kernel
theorem r2_3 : run 8 2 3 = true := by decide +kernel
theorem r2_6 : run 8 2 6 = true := by decide +kernel
theorem r3_1 : run 16 3 1 = true := by decide +kernel
theorem r3_4 : run 16 3 4 = true := by decide +kernel
theorem r3_7 : run 16 3 7 = true := by decide +kernel
theorem r3_10 : run 16 3 10 = true := by decide +kernel
theorem r3_13 : run 16 3 13 = true := by decide +kernel
end reapSelfW
