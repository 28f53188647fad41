/- VspaceLevels: evaluations, part 5. No conditions beside those in its theorems. -/
import Derived.Test.YtcdhglfdgmeokaaGreatVL
set_option linter.unusedVariables false
open Go Eng Go.Proofs Go.RowKit
namespace vspaceLevelsW
open Base
theorem r2_0 : row 2 0 = true := by decide +kernel
theorem r2_1 : row 2 1 = true := by decide +kernel
theorem r2_2 : row 2 2 = true := by decide +kernel
theorem r2_3 : row 2 3 = true := by decide +kernel
end vspaceLevelsW
