/- ReapSelf: evaluations, part 3. No conditions beside those in its theorems. -/
import Derived.Test.YtcdhglfdgmeokaaGreatRS
set_option linter.unusedVariables false
open Go Eng Go.Proofs Go.RowKit
namespace reapSelfW
open Base
theorem r1_0 : run 4 1 0 = true := by decide +kernel
theorem r1_3 : run 4 1 3 = true := by decide +kernel
theorem r2_2 : run 8 2 2 = true := by decide +kernel
theorem r2_5 : run 8 2 5 = true := by decide +kernel
theorem r3_0 : run 16 3 0 = true := by decide +kernel
theorem r3_3 : run 16 3 3 = true := by decide +kernel
theorem r3_6 : run 16 3 6 = true := by decide +kernel
theorem r3_9 : run 16 3 9 = true := by decide +kernel
theorem r3_12 : run 16 3 12 = true := by decide +kernel
theorem r3_15 : run 16 3 15 = true := by decide +kernel
end reapSelfW
