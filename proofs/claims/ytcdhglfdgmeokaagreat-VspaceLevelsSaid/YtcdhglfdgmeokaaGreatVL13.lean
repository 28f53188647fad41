/- VspaceLevels: evaluations, part 14. No conditions beside those in its theorems. -/
import Derived.Test.YtcdhglfdgmeokaaGreatVL
set_option linter.unusedVariables false
open Go Eng Go.Proofs Go.RowKit
namespace vspaceLevelsW
open Base
theorem r6_4 : row 6 4 = true := by decide +kernel
theorem r6_5 : row 6 5 = true := by decide +kernel
theorem r6_6 : row 6 6 = true := by decide +kernel
theorem r6_7 : row 6 7 = true := by decide +kernel
end vspaceLevelsW
