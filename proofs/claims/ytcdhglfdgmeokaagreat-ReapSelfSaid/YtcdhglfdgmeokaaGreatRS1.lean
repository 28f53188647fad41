/- ReapSelf: evaluations, part 2. No conditions beside those in its theorems. -/
import Derived.Test.YtcdhglfdgmeokaaGreatRS
set_option linter.unusedVariables false
open Go Eng Go.Proofs Go.RowKit
namespace reapSelfW
open Base
theorem r0_1 : run 2 0 1 = true := by decide +kernel
theorem r1_2 : run 4 1 2 = true := by decide +kernel
theorem r2_1 : run 8 2 1 = true := by decide +kernel
theorem r2_4 : run 8 2 4 = true := by decide +kernel
theorem r2_7 : run 8 2 7 = true := by decide +kernel
theorem r3_2 : run 16 3 2 = true := by decide +kernel
theorem r3_5 : run 16 3 5 = true := by decide +kernel
theorem r3_8 : run 16 3 8 = true := by decide +kernel
theorem r3_11 : run 16 3 11 = true := by decide +kernel
theorem r3_14 : run 16 3 14 = true := by decide +kernel
end reapSelfW
