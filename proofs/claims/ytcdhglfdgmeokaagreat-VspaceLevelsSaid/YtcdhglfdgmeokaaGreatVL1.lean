/- VspaceLevels: evaluations, part 2. No conditions beside those in its theorems. -/
import Derived.Test.YtcdhglfdgmeokaaGreatVL
set_option linter.unusedVariables false
open Go Eng Go.Proofs Go.RowKit
namespace vspaceLevelsW
open Base
theorem r0_4 : row 0 4 = true := by decide +kernel
theorem r0_5 : row 0 5 = true := by decide +kernel
theorem r0_6 : row 0 6 = true := by decide +kernel
theorem r0_7 : row 0 7 = true := by decide +kernel
end vspaceLevelsW
