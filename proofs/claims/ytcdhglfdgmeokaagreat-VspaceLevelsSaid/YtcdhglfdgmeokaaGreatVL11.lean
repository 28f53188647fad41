/- VspaceLevels: evaluations, part 12. No conditions beside those in its theorems. -/
import Derived.Test.YtcdhglfdgmeokaaGreatVL
set_option linter.unusedVariables false
open Go Eng Go.Proofs Go.RowKit
namespace vspaceLevelsW
open Base
theorem r5_4 : row 5 4 = true := by decide +kernel
theorem r5_5 : row 5 5 = true := by decide +kernel
theorem r5_6 : row 5 6 = true := by decide +kernel
theorem r5_7 : row 5 7 = true := by decide +kernel
end vspaceLevelsW
