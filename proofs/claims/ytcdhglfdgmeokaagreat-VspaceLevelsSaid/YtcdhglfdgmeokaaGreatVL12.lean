/- VspaceLevels: evaluations, part 13. No conditions beside those in its theorems. -/
import Derived.Test.YtcdhglfdgmeokaaGreatVL
set_option linter.unusedVariables false
open Go Eng Go.Proofs Go.RowKit
namespace vspaceLevelsW
open Base
theorem r6_0 : row 6 0 = true := by decide +kernel
theorem r6_1 : row 6 1 = true := by decide +kernel
theorem r6_2 : row 6 2 = true := by decide +kernel
theorem r6_3 : row 6 3 = true := by decide +kernel
end vspaceLevelsW
