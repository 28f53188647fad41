/- VspaceLevels: evaluations, part 11. No conditions beside those in its theorems. -/
import Derived.Test.YtcdhglfdgmeokaaGreatVL
set_option linter.unusedVariables false
open Go Eng Go.Proofs Go.RowKit
namespace vspaceLevelsW
open Base
theorem r5_0 : row 5 0 = true := by decide +kernel
theorem r5_1 : row 5 1 = true := by decide +kernel
theorem r5_2 : row 5 2 = true := by decide +kernel
theorem r5_3 : row 5 3 = true := by decide +kernel
end vspaceLevelsW
