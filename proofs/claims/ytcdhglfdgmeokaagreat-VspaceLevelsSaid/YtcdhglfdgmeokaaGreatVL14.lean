/- VspaceLevels: evaluations, part 15. No conditions beside those in its theorems. -/
import Derived.Test.YtcdhglfdgmeokaaGreatVL
set_option linter.unusedVariables false
open Go Eng Go.Proofs Go.RowKit
namespace vspaceLevelsW
open Base
theorem r7_0 : row 7 0 = true := by decide +kernel
theorem r7_1 : row 7 1 = true := by decide +kernel
theorem r7_2 : row 7 2 = true := by decide +kernel
theorem r7_3 : row 7 3 = true := by decide +kernel
end vspaceLevelsW
