/- FaultAlone: evaluations, part 4. No conditions beside those in its theorems. -/
import Derived.Test.YtcdhglfdgmeokaaGreatFA
set_option linter.unusedVariables false
open Go Eng Go.Proofs Go.RowKit
namespace faultAloneW
open Base
theorem r2_1t : run tC (n2 1) true = true := by decide +kernel
theorem r2_1f : run tC (n2 1) false = true := by decide +kernel
theorem r1_2t : run tC (n1 2) true = true := by decide +kernel
theorem r1_2f : run tC (n1 2) false = true := by decide +kernel
theorem r3_4t : run tC (n3 4) true = true := by decide +kernel
theorem r3_4f : run tC (n3 4) false = true := by decide +kernel
theorem r2_5t : run tC (n2 5) true = true := by decide +kernel
theorem r2_5f : run tC (n2 5) false = true := by decide +kernel
theorem r1_6t : run tC (n1 6) true = true := by decide +kernel
theorem r1_6f : run tC (n1 6) false = true := by decide +kernel
theorem r4_3t : run tD (n4 3) true = true := by decide +kernel
theorem r4_3f : run tD (n4 3) false = true := by decide +kernel
theorem r4_7t : run tD (n4 7) true = true := by decide +kernel
theorem r4_7f : run tD (n4 7) false = true := by decide +kernel
end faultAloneW
