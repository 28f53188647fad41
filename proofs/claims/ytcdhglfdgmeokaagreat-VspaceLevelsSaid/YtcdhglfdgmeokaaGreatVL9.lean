/- VspaceLevels: evaluations, part 10. No conditions beside those in its theorems. -/
import Derived.Test.YtcdhglfdgmeokaaGreatVL
set_option linter.unusedVariables false
open Go Eng Go.Proofs Go.RowKit
namespace vspaceLevelsW
open Base
theorem r4_4 : row 4 4 = true := by decide +kernel
theorem r4_5 : row 4 5 = true := by decide +kernel
theorem r4_6 : row 4 6 = true := by decide +kernel
theorem r4_7 : row 4 7 = true := by decide +kernel
end vspaceLevelsW
