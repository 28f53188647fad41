/- VspaceLevels: evaluations, part 8. No conditions beside those in its theorems. -/
import Derived.Test.YtcdhglfdgmeokaaGreatVL
set_option linter.unusedVariables false
open Go Eng Go.Proofs Go.RowKit
namespace vspaceLevelsW
open Base
theorem r3_4 : row 3 4 = true := by decide +kernel
theorem r3_5 : row 3 5 = true := by decide +kernel
theorem r3_6 : row 3 6 = true := by decide +kernel
theorem r3_7 : row 3 7 = true := by decide +kernel
end vspaceLevelsW
