/- VspaceLevels: evaluations, part 1. No conditions beside those in its theorems. -/
import Derived.Test.YtcdhglfdgmeokaaGreatVL
set_option linter.unusedVariables false
open Go Eng Go.Proofs Go.RowKit
namespace vspaceLevelsW
open Base
theorem r0_0 : row 0 0 = true := by decide +kernel
theorem r0_1 : row 0 1 = true := by decide +kernel
theorem r0_2 : row 0 2 = true := by decide +kernel
theorem r0_3 : row 0 3 = true := by decide +kernel
end vspaceLevelsW
