/- VspaceLevels: evaluations, part 3. No conditions beside those in its theorems. -/
import Derived.Test.YtcdhglfdgmeokaaGreatVL
set_option linter.unusedVariables false
open Go Eng Go.Proofs Go.RowKit
namespace vspaceLevelsW
open Base
theorem r1_0 : row 1 0 = true := by decide +kernel
theorem r1_1 : row 1 1 = true := by decide +kernel
theorem r1_2 : row 1 2 = true := by decide +kernel
theorem r1_3 : row 1 3 = true := by decide +kernel
end vspaceLevelsW
