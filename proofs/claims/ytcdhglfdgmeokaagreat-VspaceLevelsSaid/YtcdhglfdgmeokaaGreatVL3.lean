/- VspaceLevels: evaluations, part 4. No conditions beside those in its theorems. -/
import Derived.Test.YtcdhglfdgmeokaaGreatVL
set_option linter.unusedVariables false
open Go Eng Go.Proofs Go.RowKit
namespace vspaceLevelsW
open Base
theorem r1_4 : row 1 4 = true := by decide +kernel
theorem r1_5 : row 1 5 = true := by decide +kernel
theorem r1_6 : row 1 6 = true := by decide +kernel
theorem r1_7 : row 1 7 = true := by decide +kernel
end vspaceLevelsW
