/- VspaceLevels: evaluations, part 7. No conditions beside those in its theorems. -/
import Derived.Test.YtcdhglfdgmeokaaGreatVL
set_option linter.unusedVariables false
open Go Eng Go.Proofs Go.RowKit
namespace vspaceLevelsW
open Base
theorem r3_0 : row 3 0 = true := by decide +kernel
theorem r3_1 : row 3 1 = true := by decide +kernel
theorem r3_2 : row 3 2 = true := by decide +kernel
theorem r3_3 : row 3 3 = true := by decide +kernel
end vspaceLevelsW
