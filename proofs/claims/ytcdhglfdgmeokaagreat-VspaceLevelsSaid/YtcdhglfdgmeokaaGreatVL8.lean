/- VspaceLevels: evaluations, part 9. No conditions beside those in its theorems. -/
import Derived.Test.YtcdhglfdgmeokaaGreatVL
set_option linter.unusedVariables false
open Go Eng Go.Proofs Go.RowKit
namespace vspaceLevelsW
open Base
theorem r4_0 : row 4 0 = true := by decide +kernel
theorem r4_1 : row 4 1 = true := by decide +kernel
theorem r4_2 : row 4 2 = true := by decide +kernel
theorem r4_3 : row 4 3 = true := by decide +kernel
end vspaceLevelsW
