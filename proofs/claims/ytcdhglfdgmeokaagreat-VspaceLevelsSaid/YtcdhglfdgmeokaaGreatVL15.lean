/- VspaceLevels: evaluations, part 16. No conditions beside those in its theorems. -/
import Derived.Test.YtcdhglfdgmeokaaGreatVL
set_option linter.unusedVariables false
open Go Eng Go.Proofs Go.RowKit
namespace vspaceLevelsW
open Base
theorem r7_4 : row 7 4 = true := by decide +kernel
theorem r7_5 : row 7 5 = true := by decide +kernel
theorem r7_6 : row 7 6 = true := by decide +kernel
theorem r7_7 : row 7 7 = true := by decide +kernel
end vspaceLevelsW
