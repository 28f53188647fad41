/- VspaceLevels: evaluations, part 6. No conditions beside those in its theorems. -/
import Derived.Test.YtcdhglfdgmeokaaGreatVL
set_option linter.unusedVariables false
open Go Eng Go.Proofs Go.RowKit
namespace vspaceLevelsW
open Base
theorem r2_4 : row 2 4 = true := by decide +kernel
theorem r2_5 : row 2 5 = true := by decide +kernel
theorem r2_6 : row 2 6 = true := by decide +kernel
theorem r2_7 : row 2 7 = true := by decide +kernel
end vspaceLevelsW
